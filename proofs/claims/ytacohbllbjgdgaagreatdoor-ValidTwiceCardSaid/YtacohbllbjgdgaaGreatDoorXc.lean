/- The typer: push, dies, goes, and small functions. -/
import Derived.Test.YtacohbllbjgdgaaGreatDoorXa
import Derived.Test.YtacohbllbjgdgaaGreatDoorFa
set_option linter.all false
set_option maxRecDepth 100000
set_option maxHeartbeats 4000000
namespace Go.Proofs.YtacohbllbjgdgaaGreatDoor
open Go.RowKit
theorem info3v:(Tryz.prog.info? 3).map (λi=>(i.zero,i.size,i.bytes))=some (some (.int .i64 0),1,8):=by kernel_rfl
theorem vN:∃i,Tryz.prog.info? 3=some i/\i.zero=some (.int .i64 0)/\i.size=1/\i.bytes=8:=by
 have h:=info3v;cases hi:Tryz.prog.info? 3 with
 |none=>rw[hi]at h;cases h
 |some i=>rw[hi]at h;simp only[Option.map_some,Option.some.injEq,Prod.mk.injEq]at h;exact⟨i,rfl,h.1,h.2.1,h.2.2⟩
def xJ (N p:Nat) (cv lv:Value) (w:World) (sv fv:Value) (x:Except Int Ts) (e:Ending) (w':World):Prop:=
 match x with
 |.ok t=>e=.returned (.tuple #[])/\∃sv',TyP N p cv lv w' sv' fv t/\Tw p sv fv sv' fv w w'
 |.error n=>e=.panicked (jS n)/\∃sv' fv',Tw p sv fv sv' fv' w w'
theorem ints_news{w:World}{b o:Nat}{l:List Int}(hc:∀i x,l[i]? =some x->w.cell? ⟨b,o+i,none⟩=some (.int .i64 x)):∀j u,(l.map λx=>Value.int .i64 x)[j]? =some u->w.cell? ((⟨b,o,none⟩:Addr).add j)=some u:=λj u hu=>by
 rw[List.getElem?_map]at hu;cases hl:l[j]? with
 |none=>rw[hl]at hu;cases hu
 |some x=>
   rw[hl]at hu;cases hu;have hadd:(⟨b,o,none⟩:Addr).add j=⟨b,o+j,none⟩:=(by unfold Addr.add;split<;>simp_all)
   rw[hadd];exact hc j x hl
theorem yR{w:World}{base:Nat}{e:TypeId}{size n:Nat}{v:Value}{xs:List Value}(h:w.ownsRow base e size v n xs):∃a c,v=.slice a n c:=by
 rcases h.2 with⟨rfl,rfl⟩ |⟨g,cap,cur,rfl,_⟩
 . exact⟨_,_,rfl⟩
 . exact⟨_,_,rfl⟩
theorem vR{P:Program}(w:World)(base:Nat)(t ty e:TypeId)(i:TypeInfo)(size:Nat)(ht:P.underlying t=some (.slice e))(hi:P.info? e=some i)(v:Value)(n c:Nat)(xs:List Value)(hown:w.ownsRow base e size v n xs):(Builtin.append_ #[t,t] ty #[v,.slice none 0 c]).run P w=.ok v w:=by
 rcases hown.2 with⟨rfl,rfl⟩ |⟨g,cap,cur,rfl,_,_,hnc,_⟩
 . simp[Builtin.append_,run_underlying ht,sizeOf,typeInfo,hi,Builtin.lenOf,Builtin.firstCells]
 . simp[Builtin.append_,run_underlying ht,sizeOf,typeInfo,hi,Builtin.lenOf,Builtin.firstCells,hnc,storeCells]
theorem xY{P:Program}(w:World){ops:Array Oper}{rest:List Oper}{o:Oper}{a:Act}{Q:Exit->Act->World->Prop}(hgd:o.guard=none)(s x:Operand)(t:TypeId)(ho:o.op=.call {callee:=.builtin .append,args:= #[s,x],argTypes:= #[t,t]})(base:Nat)(e:TypeId)(i:TypeInfo)(size:Nat)(ht:P.underlying t=some (.slice e))(hi:P.info? e=some i)(v:Value)(n c:Nat)(xs:List Value)(hs:a.eval s=v)(hown:w.ownsRow base e size v n xs)(hx:a.eval x=.slice none 0 c)(h:wpList P ops Q rest (a.put o.dst v) w):wpList P ops Q (o::rest) a w:=by
 refine wpList_plain hgd λK hK=> ?_;have hr:=vR (P:=P) w base t o.type e i size ht hi v n c xs hown;unfold Oper.wp execOp;simp only[ho,resolve,invoke,builtin,Sem.run_bind,Sem.run_pure,Result.andThen_ok,List.map_toArray,List.map_cons,List.map_nil,hs,hx,hr];exact hK _ _ h
theorem push_any{N p:Nat}{cv lv:Value}{w:World}{sv fv:Value}{s:Ts}(h:TyP N p cv lv w sv fv s){l:List Int}{la:Option Addr}{lc:Nat}(hl:IntsIn w la (l.map (jG 1)))(hb:s.st.length+l.length<=1099511627776):Calls Tryz.prog 95 #[.pointer (some ⟨p,0,none⟩),.slice la l.length lc] w (xJ N p cv lv w sv fv (.ok (zN l s))):=by
 obtain⟨i3,hi3,hz3,hs3,hb3⟩:=vN;obtain⟨k0,k1,k2,k3,z2,z3⟩:=h.c;have hpb:=lt_of_block h.b;have hne:sv.ownBlock≠some p:=λe=>by have:=h.o.low.1 p e;have:=h.o.hN;omega
 have hN:=h.o.hw
 have fin:∀v' w1,w1.ownsRow N 3 1 v' (s.st.length+l.length) (stC 1 s.st++(l.map (jG 1)).map λx=>Value.int .i64 x)->w.grownBy w1 sv.ownBlock->(v'.ownBlock=sv.ownBlock\/v'.ownBlock=some w.heap.size)->
  Hid (TyP N p cv lv (w1.setCell ⟨p,2,none⟩ v') v' fv (zN l s)/\Tw p sv fv v' fv w (w1.setCell ⟨p,2,none⟩ v'))/\w1.cell? ⟨p,2,none⟩=some sv/\w1.frozen? ⟨p,2,none⟩=false:=λv' w1 ho hg ha=>by
  obtain⟨o1,t1⟩:=h.o.push (by decide) (by rw[List.map_map]at ho;exact ho) hg ha;have hp1:w1.heap[p]? =some (.cells #[cv,lv,sv,fv] 99 (0,0)):=(by rw[hg.block p hpb (λe=>hne e.symm)];exact h.b)
  exact⟨zh ⟨⟨by rw[heap_setCell_same w1 p 2 _ _ _ hp1];rfl,o1.setP 2 v'⟩,t1.set 2 v'⟩,by rw[cell_of_row w1 p 2 _ _ _ hp1];rfl,frozen_of_row w1 p 2 _ _ hp1⟩
 obtain⟨h63,hc⟩:=hl;have hown:=h.o.st;cases la with
 |none=>
   have hnil:l=[]:=by
    rcases hc with hc |⟨b,o,e,_⟩
    . simpa using hc
    . cases e
   subst hnil;obtain⟨hf,_,_⟩:=fin sv w (by simpa using h.o.st) ⟨rfl,rfl,rfl,Nat.le_refl _,λ_ _ _=>rfl⟩ (.inl rfl);obtain⟨sa,sc,rfl⟩:=yR hown;clear fin h hpb hne hN;go_enter Tryz.func95,Tryz.ntmps95
   go_wp2_with (first |(
    at_builtin
    refine xY _ rfl _ _ _ rfl N 3 i3 1 Tryz.underlying28 hi3 _ s.st.length lc _ (by rfl) hown (by rfl) ?_))
   go_end0;exact⟨rfl,_,hf.out.1,hf.out.2⟩
 |some ad=>
   have hnews:∀j u,((l.map (jG 1)).map λx=>Value.int .i64 x)[j]? =some u->w.cell? (ad.add j)=some u:=by
    rcases hc with hc |⟨b',o',e,hc⟩
    . rw[hc];intro j u hu;cases hu
    . cases e;exact ints_news hc
   clear hc h;go_enter Tryz.func95,Tryz.ntmps95
   go_wp2_with (first |(
    at_builtin
    refine wpList_append_own_at _ rfl _ _ _ rfl N 3 i3 _ 1 8 Tryz.underlying28 hi3 hz3 hs3 hb3 rfl (by omega) sv s.st.length _ (by rfl) hown ad l.length lc _ (by rfl) (by simp) hnews (by intro u hu;simp only[List.mem_map]at hu;obtain⟨x,_,rfl⟩:=hu;rfl) (by unfold maxLen;omega) (by omega) hN ?_;intro v' w1 hown1 hgrow hnil hat;obtain⟨sa',sc',rfl⟩:=yR hown1;obtain⟨hf,y2,f2⟩:=fin _ w1 hown1 hgrow hat;obtain⟨sa,sc,hsv⟩:=yR hown;rw[hsv]at y2))
   go_end0;exact⟨rfl,_,hf.out.1,hf.out.2⟩
theorem qB{n m:Int}(h:n<m)(w:World):Calls Tryz.prog 51 #[.int .i64 n,.int .i64 m] w λe w'=>e=.returned (.tuple #[])/\w=w':=by have:=has_any n m w;rw[decide_eq_true h]at this;exact this
theorem vA{n m:Int}(h:¬n<m)(w:World):Calls Tryz.prog 51 #[.int .i64 n,.int .i64 m] w λe w'=>e=.panicked (jS 61)/\w=w':=by have:=has_any n m w;rw[decide_eq_false h]at this;exact this
theorem tDies_eq{s:Ts}{f:Fr}{r:List Fr}(hf:s.fs=f::r):vC s=⟨s.st.drop (s.st.length-f.h),{f with dead:=true}::r⟩:=by unfold vC;rw[hf]
theorem Ows.cut{N p:Nat}{et:TypeId}{un:Int}{w:World}{sv fv:Value}{s:Ts}(h:Ows N p et un w sv fv s){m:Nat}(hm:m<=s.st.length):∃a n c,sv=.slice a n c/\m<=c/\n=s.st.length/\n<=9223372036854775807/\c<=9223372036854775807/\Ows N p et un w (.slice a m c) fv ⟨s.st.drop (s.st.length-m),s.fs⟩/\(Value.slice a m c).ownBlock=sv.ownBlock:=by
 have hst:=h.st
 rcases hst.2 with⟨rfl,h0⟩ |⟨g,cap,cur,rfl,_,_,hn,hc,_⟩
 . have:m=0:=(by omega)
   subst this;have hs:s.st=[]:=List.eq_nil_of_length_eq_zero h0;refine⟨none,0,0,rfl,by omega,by omega,by omega,by omega,?_,rfl⟩;have e:(⟨s.st.drop (s.st.length-0),s.fs⟩:Ts)=s:=(by rw[hs];cases s;simp at hs;subst hs;rfl)
   rw[e];exact h
 . simp only[maxLen]at hc;exact⟨_,_,cap,rfl,by omega,rfl,by omega,by omega,h.drop rfl hm,rfl⟩
theorem dies_any{N p:Nat}{cv lv:Value}{w:World}{sv fv:Value}{s:Ts}(h:TyP N p cv lv w sv fv s)(hw:Wf s):Calls Tryz.prog 120 #[.pointer (some ⟨p,0,none⟩)] w (xJ N p cv lv w sv fv (.ok (vC s))):=by
 obtain⟨f,r,hf,hh⟩:=hw.fs;rw[tDies_eq hf];go_enter Tryz.func120,Tryz.ntmps120;go_wp2_with fail;refine(top_any h hf).mono ?_;rintro e w1 ⟨⟨g,cap,rfl,rfl⟩,b1⟩;have h1:=h.step b1;obtain⟨g',cap',fa,hfv',hg,c0,c1,c2,c3,z3,l1,l2,hn,hm⟩:=h1.o.top hf;cases hfv';obtain⟨k0,k1,k2,k3,z2,z3'⟩:=h1.c;obtain⟨sa,sn,sc,rfl,hsc,rfl,hsl,hcl,ho,hob⟩:=h1.o.cut hh;have i0:(0:Int)<=(f.h:Int):=(by omega)
 have i1:(f.h:Int)<=(sc:Int):=(by omega)
 go_wp2_with fail;refine wp_region_still_tail 10 (by kernel_rfl) (by kernel_rfl) ?_;simp only[List.take_succ_cons,List.take_zero,List.drop_succ_cons,List.drop_zero]
 repeat still_step
 refine wpStill_nil ?_;change wpList _ _ _ _ _ w1.drew;have h4:=h1.step (w':=w1.drew) (zB 1);have b4:Below w.heap.size w w1.drew:=b1.trans ((zB (w:=w1) 1).mono b1.size);have ho4:=ho.step (w':=w1.drew) (zB 1);obtain⟨w4,hw4⟩:∃w4,w4=w1.drew:=⟨_,rfl⟩
 rw[<-hw4]at h4 b4 ho4 ⊢;clear hw4 h1 b1 ho k0 k1 k2 k3 z2 z3' c0 c1 c2 c3 z3;obtain⟨k0,k1,k2,k3,z2,z3'⟩:=h4.c;have h5:=h4.setS ho4;have t5:=((Tw.of_below (p:=p) (sv:=.slice sa s.st.length sc) (fv:=.slice (some ⟨g,0,none⟩) (r.length+1) cap) b4).cutS (sv'':=.slice sa f.h sc) hob).set 2 (.slice sa f.h sc);have hr5:=h5.o.top (f:=f) (r:=r) hf;obtain⟨g',cap',fa',hfv',_,_,_,c2',c3',z3,_,_,_,_⟩:=hr5;cases hfv';obtain⟨o6,t6⟩:=h5.o.die (by decide) rfl (f:=f) (r:=r) hf;have hgp:g≠p:=λe=>by have:=h5.o.hN;omega
 go_wp2_with fail;go_end0;refine⟨rfl,_,⟨?_,o6⟩,t5.trans t6⟩;exact(Below.heap_setCell _ _ _ _ (show p≠g fromλe=>hgp e.symm)).trans h5.b
def Gq (p:Nat) (w:World) (sv fv:Value) (x:Except Int (List Int)) (e:Ending) (w':World):Prop:=
 match x with
 |.ok g=>(∃ga gc,e=.returned (.slice ga g.length gc)/\LiB w' p sv fv ga g)/\Below w.heap.size w w'
 |.error k=>e=.panicked (jS k)/\Below w.heap.size w w'
theorem goes_any{N p:Nat}{cv lv:Value}{w:World}{sv fv:Value}{s:Ts}(h:TyP N p cv lv w sv fv s){n:Int}(h0:0<=n):Calls Tryz.prog 118 #[.pointer (some ⟨p,0,none⟩),.int .i64 n] w (Gq p w sv fv (xB n s)):=by
 obtain⟨k0,k1,k2,k3,z2,z3⟩:=h.c;obtain⟨L,hL1,hL2,hL3⟩:=h.o.fs;have hll:L.length=s.fs.length:=(by rw[<-hL1,List.length_map])
 obtain⟨fa,fc,hfv⟩:=yR hL2;rw[hll]at hfv;rw[hfv]at k3
 by_cases hn:n<(s.fs.length:Int)
 . obtain⟨k,rfl⟩:∃k:Nat,n=k:=⟨n.toNat,by omega⟩
   have hk:k<s.fs.length:=(by omega)
   obtain⟨f,hf⟩:∃f,s.fs[k]? =some f:=⟨_,List.getElem?_eq_getElem hk⟩
   have hX:xB (k:Int) s=.ok f.goes:=by
    unfold xB;rw[if_pos hn];have:s.fs.getD k fr0=f:=(by rw[List.getD_eq_getElem?_getD,hf];rfl)
    rw[Int.toNat_natCast,this]
   rw[hX];clear hX;obtain⟨g,cap,fa',hfv',hg,c0,c1,c2,c3,z3',l1,l2,hn2,hm⟩:=h.o.frame hf;rw[hfv]at hfv';cases hfv';simp only[maxLen]at hm;have e1:IntKind.i64.wrap ((s.fs.length:Int)-1)=((s.fs.length-1:Nat):Int):=(by rw[IntKind.wrap_i64];omega)
   have e2:IntKind.i64.wrap (((s.fs.length-1:Nat):Int)-(k:Int))=((s.fs.length-1-k:Nat):Int):=(by rw[IntKind.wrap_i64];omega)
   have i1:(0:Int)<=((s.fs.length-1-k:Nat):Int):=(by omega)
   have i2:((s.fs.length-1-k:Nat):Int)<(s.fs.length:Int):=(by omega)
   have hH:=λw=>qB hn w;go_enter Tryz.func118,Tryz.ntmps118;go_wp2_with fail;refine(hH _).mono ?_;rintro e w' ⟨rfl,rfl⟩;go_wp2_with fail
   go_quiet (fail)
   go_wp2_with fail;go_ret;exact⟨⟨_,_,rfl,l1.tw (.of_below (zB nq))⟩,zB nq⟩
 . have hX:xB n s=.error 61:=(by unfold xB;rw[if_neg hn])
   rw[hX];have hH:=λw=>vA hn w;go_enter Tryz.func118,Tryz.ntmps118;go_wp2_with fail;refine(hH _).mono ?_;rintro e w' ⟨rfl,rfl⟩;go_wp2_with fail;exact⟨rfl,rfl,Below.refl _ _⟩
def IsListV (H:Nat) (w:World) (v:Value) (m:Nat) (t:Int):Prop:=
 ∃p cap,v=.slice p m cap/\(m=0\/∃g,H<=g/\p=some ⟨g,0,none⟩/\∀i,i<m->w.cell? ⟨g,i,none⟩=some (.int .i64 t))
theorem new_cell(w:World)(o1 o2:Obj)(cs:Array Value)(e:TypeId)(i:Nat)(v:Value)(h:cs[i]? =some v):(((w.alloc o1).alloc o2).alloc (.cells cs e)).cell? ⟨w.heap.size+2,i,none⟩=some v:=by exact(World.cell?_alloc_at (w:=(w.alloc o1).alloc o2) cs e _ i (by simp)).trans h
def SigL (w:World) (k t:Int) (m:Nat) (e:Ending) (w':World):Prop:=
 ∃v,e=.returned (.tuple #[v,.int .i64 (sR k t),.bool (k !=0)])/\IsListV w.heap.size w' v m t/\Below w.heap.size w w'
theorem sigl_any(op k n t:Int)(w:World)(h:OfIs op k n t):Calls Tryz.prog 94 #[.int .i64 op] w (SigL w k t (sN k).toNat):=by
 have HF:=λw=>zh (of_any op k n t w h);have hk:=of_k h;clear h
 rcases hk with⟨rfl,rfl⟩ |rfl |rfl |rfl |rfl |⟨rfl,ht⟩
 . go_enter Tryz.func94,Tryz.ntmps94;go_wp2_with fail;refine(HF _).out.mono ?_;rintro e w' ⟨rfl,rfl⟩;go_wp2
   go_ret3
   exact⟨_,rfl,⟨none,0,rfl,.inl rfl⟩,(Below.of_alloc w _).alloc (by simp) _⟩
 . go_enter Tryz.func94,Tryz.ntmps94;go_wp2_with fail;refine(HF _).out.mono ?_;rintro e w' ⟨rfl,rfl⟩;go_wp2
   go_region
   all_goals
    go_wp2
    go_ret3
    refine⟨_,rfl,⟨some ⟨w.heap.size+2,0,none⟩,1,by first |rfl |simp,.inr ⟨w.heap.size+2,Nat.le_add_right _ _,rfl,λi hi=> ?_⟩⟩,?_⟩
    . have:i=0:=(by have:(sN 1).toNat=1:=rfl;omega)
      subst this;exact new_cell _ _ _ _ _ _ _ rfl
    . first |exact(((Below.of_alloc w _).alloc (by simp) _).alloc (by simp;omega) _).drew |exact((Below.of_alloc w _).alloc (by simp) _).alloc (by simp;omega) _
 . go_enter Tryz.func94,Tryz.ntmps94;go_wp2_with fail;refine(HF _).out.mono ?_;rintro e w' ⟨rfl,rfl⟩;go_wp2
   all_goals
    go_ret3
    refine⟨_,rfl,⟨some ⟨w.heap.size+2,0,none⟩,1,by first |rfl |simp,.inr ⟨w.heap.size+2,Nat.le_add_right _ _,rfl,λi hi=> ?_⟩⟩,?_⟩
    . have:i=0:=(by have:(sN 2).toNat=1:=rfl;omega)
      subst this;exact new_cell _ _ _ _ _ _ _ rfl
    . first |exact(((Below.of_alloc w _).alloc (by simp) _).alloc (by simp;omega) _).drew |exact((Below.of_alloc w _).alloc (by simp) _).alloc (by simp;omega) _
 . go_enter Tryz.func94,Tryz.ntmps94;go_wp2_with fail;refine(HF _).out.mono ?_;rintro e w' ⟨rfl,rfl⟩;go_wp2
   go_region
   all_goals
    go_wp2
    go_ret3
    refine⟨_,rfl,⟨some ⟨w.heap.size+2,0,none⟩,2,by first |rfl |simp,.inr ⟨w.heap.size+2,Nat.le_add_right _ _,rfl,λi hi=> ?_⟩⟩,?_⟩
    . have:i=0\/i=1:=(by have:(sN 3).toNat=2:=rfl;omega)
      rcases this with rfl |rfl<;>exact new_cell _ _ _ _ _ _ _ rfl
    . first |exact(((Below.of_alloc w _).alloc (by simp) _).alloc (by simp;omega) _).drew |exact((Below.of_alloc w _).alloc (by simp) _).alloc (by simp;omega) _
 . go_enter Tryz.func94,Tryz.ntmps94;go_wp2_with fail;refine(HF _).out.mono ?_;rintro e w' ⟨rfl,rfl⟩;go_wp2
   all_goals
    go_ret3
    refine⟨_,rfl,⟨some ⟨w.heap.size+2,0,none⟩,2,by first |rfl |simp,.inr ⟨w.heap.size+2,Nat.le_add_right _ _,rfl,λi hi=> ?_⟩⟩,?_⟩
    . have:i=0\/i=1:=(by have:(sN 4).toNat=2:=rfl;omega)
      rcases this with rfl |rfl<;>exact new_cell _ _ _ _ _ _ _ rfl
    . first |exact(((Below.of_alloc w _).alloc (by simp) _).alloc (by simp;omega) _).drew |exact((Below.of_alloc w _).alloc (by simp) _).alloc (by simp;omega) _
 . rcases ht with rfl |rfl
   all_goals
    go_enter Tryz.func94,Tryz.ntmps94;go_wp2_with fail;refine(HF _).out.mono ?_;rintro e w' ⟨rfl,rfl⟩;go_wp2
    go_region
    all_goals
     go_wp2
     go_ret3
     refine⟨_,rfl,⟨some ⟨w.heap.size+2,0,none⟩,1,by first |rfl |simp,.inr ⟨w.heap.size+2,Nat.le_add_right _ _,rfl,λi hi=> ?_⟩⟩,?_⟩
     . have:i=0:=(by have:(sN 5).toNat=1:=rfl;omega)
       subst this;exact new_cell _ _ _ _ _ _ _ rfl
     . first |exact(((Below.of_alloc w _).alloc (by simp) _).alloc (by simp;omega) _).drew |exact((Below.of_alloc w _).alloc (by simp) _).alloc (by simp;omega) _
theorem IsListV.ints{H:Nat}{w:World}{v:Value}{m:Nat}{t:Int}(h:IsListV H w v m t)(hm:m<=2):∃a c,v=.slice a m c/\IntsIn w a (List.replicate m t)/\(List.replicate m t=[]\/∀ad,a=some ad->H<=ad.block):=by
 obtain⟨p,c,rfl,h⟩:=h;refine⟨p,c,rfl,⟨by rw[List.length_replicate];omega,?_⟩,?_⟩
 . rcases h with rfl |⟨g,_,rfl,h⟩
   . exact .inl rfl
   . refine .inr ⟨g,0,rfl,λi x hx=> ?_⟩;obtain⟨hi,hx⟩:=List.getElem?_eq_some_iff.1 hx;rw[List.getElem_replicate]at hx;subst hx;rw[Nat.zero_add];exact h i (by simpa using hi)
 . rcases h with rfl |⟨g,hg,rfl,h⟩
   . exact .inl rfl
   . exact .inr λad e=>by cases e;exact hg
theorem sgN_eq(k:Int):sgN k=(sN k).toNat:=by
 unfold sgN sN
 repeat' split
 all_goals first |rfl |omega
theorem sgR_eq{k t:Int}(h:(k=0/\t=0)\/k=1\/k=2\/k=3\/k=4\/(k=5/\(t=126\/t=127))):sgR k t=sR k t:=by
 unfold sgR sR
 repeat' split
 all_goals omega
theorem sg_of'{op k n t:Int}(h:OfIs op k n t)(q:Int×Int×Int)(hq:sgV op=q):q=(k,n,t):=by
 have h:=h.is;unfold sgV at hq
 repeat' split at hq
 all_goals subst hq
 all_goals rw[Prod.mk.injEq,Prod.mk.injEq]
 all_goals omega
theorem sg_of{op k n t:Int}(h:OfIs op k n t):sgV op=(k,n,t)/\sgN k=(sN k).toNat/\sgR k t=sR k t:=⟨sg_of' h _ rfl,sgN_eq k,sgR_eq (of_k h)⟩
theorem LiB.fresh{w w':World}{N p:Nat}{et:TypeId}{un:Int}{sv fv:Value}{s:Ts}(h:Ows N p et un w sv fv s){a:Option Addr}{l:List Int}(hi:IntsIn w' a l)(hf:l=[]\/∀ad,a=some ad->w.heap.size<=ad.block):LiB w' p sv fv a l:=by refine⟨hi,hf.imp_right λq ad e=> ?_⟩;have:=q ad e;have h1:=h.hN;have h2:=h.hw;obtain⟨L,_,h3,_⟩:=h.fs;exact⟨by omega,λq=>by have:=(h.st.lt _ q).2;omega,λq=>by have:=(h3.lt _ q).2;omega⟩
theorem result_v(n:Int)(w:World):Calls Tryz.prog 117 #[.int .i64 n] w λe w'=>(∃a c,e=.returned (.slice a (zL n).length c)/\IntsIn w' a (zL n)/\(zL n=[]\/∀ad,a=some ad->w.heap.size<=ad.block))/\Below w.heap.size w w':=by
 by_cases h:n=0
 . subst h;go_enter Tryz.func117,Tryz.ntmps117;go_wp2;go_ret;exact⟨⟨none,0,rfl,⟨by decide,.inl rfl⟩,.inl rfl⟩,Below.refl _ _⟩
 . have hr:zL n=[n]:=(by unfold zL;rw[if_neg h])
   have hb:(n==0)=false:=(by simp[h])
   rw[hr];go_enter Tryz.func117,Tryz.ntmps117;go_wp2;go_ret;refine⟨⟨_,_,rfl,⟨by simp,.inr ⟨_,_,rfl,λi x hx=> ?_⟩⟩,.inr λad e=>by cases e;exact Nat.le_refl _⟩,Below.of_alloc w _⟩;have hi:i=0:=(by have:=(List.getElem?_eq_some_iff.1 hx).1;simp at this;omega)
   subst hi;simp at hx;subst hx;exact World.cell?_alloc_at _ _ _ 0 (by simp)
theorem qR(op:Int)(w:World):Calls Tryz.prog 121 #[.int .i64 op] w λe w'=>e=.returned (.int .i64 (qA op))/\w=w':=by
 go_enter Tryz.func121,Tryz.ntmps121;go_wp2;all_goals go_ret
 all_goals refine⟨?_,rfl⟩
 all_goals refine congrArg (λx=>Ending.returned (Value.int .i64 x)) ?_
 all_goals simp only[beq_iff_eq,beq_eq_false_iff_ne,ne_eq]at*
 all_goals unfold qA
 all_goals repeat' split
 all_goals omega
theorem IntsIn.at{w:World}{a:Option Addr}{l:List Int}(h:IntsIn w a l){i:Nat}{x:Int}(hx:l[i]? =some x):∃b o,a=some ⟨b,o,none⟩/\w.cell? ⟨b,o+i,none⟩=some (.int .i64 x):=by
 rcases h.2 with rfl |⟨b,o,rfl,hc⟩
 . simp at hx
 . exact⟨b,o,rfl,hc i x hx⟩
theorem take_eq_succ{l r:List Int}{i:Nat}{x y:Int}(hx:l[i]? =some x)(hy:r[i]? =some y)(h:l.take i=r.take i)(e:x=y):l.take (i+1)=r.take (i+1):=by rw[List.take_add_one,List.take_add_one,h,hx,hy,e]
theorem equal_any(l r:List Int)(la ra:Option Addr)(lc rc:Nat)(w:World)(hl:IntsIn w la l)(hr:IntsIn w ra r):Calls Tryz.prog 119 #[.slice la l.length lc,.slice ra r.length rc] w λe w'=>e=.returned (.bool (decide (l=r)))/\Below w.heap.size w w':=by
 have h1:=hl.1;have h2:=hr.1
 by_cases hn:l.length=r.length
 . have hb:(((l.length:Nat):Int) !=((r.length:Nat):Int))=false:=(by simp[hn])
   go_enter Tryz.func119,Tryz.ntmps119;go_wp2_with fail;go_loopw [5,13] (λv5 v wr=>∃(i:Nat) (n:Nat),i<=l.length/\v=.int .i64 i/\wr=w.drewN n/\l.take i=r.take i) (λ_ v _=>l.length-(intOf v).toNat)
   case atStart=>exact⟨0,0,by omega,rfl,rfl,by simp⟩
   case round=>
    obtain⟨i,n,hi,rfl,rfl,ht⟩:=hrel
    by_cases hlt:i<l.length
    . obtain⟨x,hx⟩:∃x,l[i]? =some x:=⟨_,List.getElem?_eq_getElem hlt⟩
      obtain⟨y,hy⟩:∃y,r[i]? =some y:=⟨_,List.getElem?_eq_getElem (show i<r.length by omega)⟩
      obtain⟨b1,o1,rfl,c1⟩:=hl.at hx;obtain⟨b2,o2,rfl,c2⟩:=hr.at hy;have i2:(i:Int)<(r.length:Int):=(by omega)
      replace ht:=zh ht;replace hx:=zh hx;replace hy:=zh hy
      by_cases he:x=y
      . have hxy:(x !=y)=false:=(by simp[he])
        go_wp2_with fail
        go_quiet (fail)
        go_wp2
        go_roundw
        case rel=>exact⟨i+1,n+nq,by omega,by simp,rfl,take_eq_succ hx.out hy.out ht.out he⟩
        case measure=>simp[intOf];omega
      . have hxy:(x !=y)=true:=(by simp[he])
        go_wp2_with fail
        go_quiet (fail)
        go_wp2;go_ret;refine⟨?_,(zB (w:=w) n).trans (zB (w:=w.drewN n) nq)⟩;have:l≠r:=λe=>he (by have:=hx.out;have h3:=hy.out;rw[e,h3]at this;exact(Option.some.inj this).symm);rw[decide_eq_false this];rfl
    . have hil:i=l.length:=(by omega)
      have:l=r:=by rw[hil]at ht;rw[List.take_of_length_le (Nat.le_refl _),List.take_of_length_le (by omega)]at ht;exact ht
      clear ht;replace this:=zh this;go_wp2;go_ret;exact⟨by rw[decide_eq_true this.out];rfl,zB n⟩
 . have hb:(((l.length:Nat):Int) !=((r.length:Nat):Int))=true:=(by simp;omega)
   have:l≠r:=λe=>hn (by rw[e]);rw[decide_eq_false this];go_enter Tryz.func119,Tryz.ntmps119;go_wp2;go_ret;exact⟨rfl,Below.refl _ _⟩
end Go.Proofs.YtacohbllbjgdgaaGreatDoor
