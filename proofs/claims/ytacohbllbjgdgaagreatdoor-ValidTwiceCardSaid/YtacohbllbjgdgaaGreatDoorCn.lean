/- The reference's Copy. -/
import Derived.Test.YtacohbllbjgdgaaGreatDoorCm
import Derived.Test.YtacohbllbjgdgaaGreatDoorWa
set_option linter.all false
set_option maxRecDepth 100000
set_option maxHeartbeats 4000000
namespace Go.Proofs.YtacohbllbjgdgaaGreatDoor
open Go.RowKit
theorem wp_as_then{P:Program}{Q:Exit->Act->World->Prop}{c:Code}{a:Act}{w:World}(h:∀K:Act->World->Prop,(∀a w,K a w↔Q .normal a w)->c.wp P (Exit.then K Q) a w):c.wp P Q a w:=by refine wp_mono (h (Q .normal) λ_ _=>Iff.rfl) ?_;intro e a' w' hq;cases e<;>exact hq
structure gloCT where
 ty:Int
 mu:Bool
 t:ERec
def gloC:Rec gloCT where
 enc t:=[.int .i64 t.ty,.bool t.mu]++eV t.t
 ok R w t:=EOk R w t.t
 keep R S w w' t f h:=h.keep f
theorem gloC_one(t:gloCT):∀u∈gloC.enc t,u.oneCell'=true:=by
 intro u hu
 rcases List.mem_append.1 hu with h |h
 . simp only[List.mem_cons,List.mem_nil_iff,or_false]at h
   rcases h with rfl |rfl<;>rfl
 . exact eV_one _ u h
theorem info62:(Tryz.prog.info? 51).map (λi=>(i.zero,i.size,i.bytes))=some (some (.agg #[.int .i64 0,.bool false,.int .i64 0,.int .i64 0,.int .i64 0,.int .i64 0,.slice none 0 0,.slice none 0 0,.slice none 0 0]),9,120):=by kernel_rfl
def oneE (t:ERec):One:=⟨t.op,t.x,t.y,t.n,t.ls,t.body,t.els⟩
theorem one_of{t:ERec}{op x y n:Int}{ls:List Int}{body els:Il}(h:vU [t] .nil=.cons op x y n ls body els .nil):oneE t=⟨op,x,y,n,ls,body,els⟩:=by obtain⟨h1,h2,h3,h4,h5,h6,h7,_⟩:=Il.cons.inj (show Il.cons t.op t.x t.y t.n t.ls t.body t.els .nil=_ from h);unfold oneE;rw[h1,h2,h3,h4,h5,h6,h7]
theorem in0{w:World}{a:Option Addr}{l:Il}(h:l=.nil\/∃b o,a=some ⟨b,o,none⟩/\IlAt w b o l):IlIn w a 0 l:=by
 rcases h with h |⟨b,o,e,h⟩
 . exact .inl h
 . exact .inr ⟨b,o,e,by simpa using h⟩
theorem il_of{R:Nat->Prop}{w:World}{b o:Nat}{t:ERec}(hc:∀j u,(eV t)[j]? =some u->w.cell? ⟨b,o+j,none⟩=some u)(h:EOk R w t):IlAt w b o (oneE t).il:=by
 refine⟨⟨hc 0 _ rfl,hc 1 _ rfl,hc 2 _ rfl,hc 3 _ rfl⟩,⟨_,_,hc 4 _ rfl,h.i4.ints⟩,⟨_,_,hc 5 _ rfl,h.l5,?_⟩,⟨_,_,hc 6 _ rfl,h.l6,?_⟩,trivial⟩
 . rcases h.i5 with e |⟨b2,o2,e,_,h⟩
   . exact .inl e
   . exact .inr ⟨b2,o2,e,IlR.at _ _ _ h⟩
 . rcases h.i6 with e |⟨b2,o2,e,_,h⟩
   . exact .inl e
   . exact .inr ⟨b2,o2,e,IlR.at _ _ _ h⟩
def setA:Nat->List Value->Array Value->Array Value
 |_,[],cs=>cs
 |o,v::r,cs=>setA (o+1) r (cs.setIfInBounds o v)
theorem setAll_heap (g:Nat) (t:TypeId):∀(vs:List Value) (o:Nat) (w:World) (cs:Array Value),w.heap[g]? =some (.cells cs t (0,0))->(setAll g o vs w).heap[g]? =some (.cells (setA o vs cs) t (0,0))
 | [],_,_,_,h=>h
 |v::r,o,w,cs,h=>setAll_heap g t r (o+1) _ _ (heap_setCell_same w g o cs t v h)
theorem setA10(v0 v1 v2 v3 v4 v5 v6 v7 v8 v9 z:Value):setA 0 [v0,v1,v2,v3,v4,v5,v6,v7,v8,v9] #[z,z,z,z,z,z,z,z,z,z]= #[v0,v1,v2,v3,v4,v5,v6,v7,v8,v9]:=by simp[setA]
theorem info36s:(Tryz.prog.info? 32).map (·.size)=some 10:=by kernel_rfl
theorem KeepsR.and{R S:Nat->Prop}{w w':World}(f:KeepsR R S w w')(X:Nat->Prop):KeepsR (λb=>R b/\X b) (λb=>S b/\X b) w w':=⟨λb hr hl=>f.1 b hr.1 hl,λb hr hl=>⟨f.2 b hr.1 hl,hr.2⟩⟩
def bl (a:Option Addr) (news:List Value):Nat->Prop:=λb=>news≠[]/\a=some ⟨b,0,none⟩
theorem RowB.bl{R:Nat->Prop}{w:World}{a:Option Addr}{news:List Value}(h:RowB R w a news):∀b,bl a news b->R b:=by
 rintro b ⟨h1,h2⟩
 rcases h with h |⟨g,e,hg,_⟩
 . exact absurd h h1
 . rw[h2]at e;cases e;exact hg
theorem own_keep{R R':Nat->Prop}{w w':World}{base:Nat}{e:TypeId}{size n:Nat}{a:Option Addr}{c:Nat}{xs:List Value}(f:KeepsR R R' w w')(h:w.ownsRow base e size (.slice a n c) n xs)(hR:∀b,(Value.slice a n c).ownBlock=some b->R b):w'.ownsRow base e size (.slice a n c) n xs:=
 ⟨h.1,h.2.imp id λ⟨g,cap,cur,e,hb,hg,r⟩=>⟨g,cap,cur,e,hb,(f.1 g (hR g (by rw[e];rfl)) (lt_of_block hg)).trans hg,r⟩⟩
theorem own_bl{w:World}{base:Nat}{e:TypeId}{size n:Nat}{a:Option Addr}{c:Nat}{xs:List Value}(hp:0<n)(hs:0<size)(h:w.ownsRow base e size (.slice a n c) n xs){b:Nat}(hb:(Value.slice a n c).ownBlock=some b):bl a xs b:=by
 have h1:=h.1
 rcases h.2 with⟨e1,e2⟩ |⟨g,cap,cur,e1,_⟩
 . omega
 . cases e1;refine⟨λe=> ?_,?_⟩
   . rw[e]at h1;have:=Nat.mul_pos hp hs;simp only[List.length_nil]at h1;omega
   . have:g=b:=Option.some.inj hb;rw[this]
def stMade (m:Md) (b1 b3 b4 b6:Option Addr) (q6:Nat) (b7:Option Addr):St where
 p R w:=(RowB (λb=>R b/\¬bl b6 (m.exports.flatMap jU) b) w b1 (m.imports.flatMap impC)/\RowB (λb=>R b/\¬bl b6 (m.exports.flatMap jU) b) w b3 (m.tables.flatMap limC)/\
  RowB (λb=>R b/\¬bl b6 (m.exports.flatMap jU) b) w b4 (m.mems.flatMap limC)/\RowB (λb=>R b/\¬bl b6 (m.exports.flatMap jU) b) w b7 (qU m.start)/\(0<m.exports.length->w.ownsRow 0 63 3 (.slice b6 m.exports.length q6) m.exports.length (m.exports.flatMap jU)))/\RowB R w b6 (m.exports.flatMap jU)
 keep R R' w w' f h:=⟨⟨h.1.1.keep (f.and _),h.1.2.1.keep (f.and _),h.1.2.2.1.keep (f.and _),h.1.2.2.2.1.keep (f.and _),λhp=>own_keep f (h.1.2.2.2.2 hp) λb hb=>h.2.bl b (own_bl hp (by decide) (h.1.2.2.2.2 hp) hb)⟩,h.2.keep f⟩
 ex:=bl b6 (m.exports.flatMap jU)
 exin R w h:=h.2.bl
def stOwn {α:Type} (S:St) (C:Rec α) (e:TypeId) (size B:Nat) (v:Value) (n:Nat) (ts:List α):St where
 p R w:=S.p (λb=>R b/\some b≠v.ownBlock) w/\(∀t∈ts,C.ok (λb=>(R b/\some b≠v.ownBlock)/\¬S.ex b) w t)/\w.ownsRow B e size v n (ts.flatMap C.enc)/\∀b,v.ownBlock=some b->R b
 keep R R' w w' f h:=by
  refine⟨S.keep _ _ _ _ (f.and _) h.1,λt ht=>C.keep _ _ _ _ _ ((f.and _).and _) (h.2.1 t ht),⟨h.2.2.1.1,?_⟩,λb hb=>f.2 b (h.2.2.2 b hb) (h.2.2.1.lt b hb).2⟩
  rcases h.2.2.1.2 with e |⟨g,cap,cur,e,hb,hg,r⟩
  . exact .inl e
  . exact .inr ⟨g,cap,cur,e,hb,(f.1 g (h.2.2.2 g (by rw[e];rfl)) (lt_of_block hg)).trans hg,r⟩
 ex b:=S.ex b\/v.ownBlock=some b
 exin R w h b hb:=hb.elim (λq=>(S.exin _ w h.1 b q).1) λq=>h.2.2.2 b q
def StOk (S:St) (B M:Nat) (w:World):Prop:=S.p (StR B M (.slice none 0 0)) w/\∀b,S.ex b->b<w.heap.size
theorem OwnS.shut{α:Type}{C:Rec α}{S:St}{e size B M:Nat}{w:World}{v:Value}{i:Nat}{ts:List α}(hBM:B<=M)(h:OwnS C S e size B M w v i ts):∃a c,v=.slice a i c/\StOk (stOwn S C e size B v i ts) B M w:=by
 have hk:KeepsR (StR B M v) (λb=>StR B M (.slice none 0 0) b/\some b≠v.ownBlock) w w:=⟨λ_ _ _=>rfl,λb hb _=>⟨⟨hb.1,hb.2.1,λe=>by cases e⟩,hb.2.2⟩⟩
 have hv:∃a c,v=.slice a i c:=by
  rcases h.own.2 with⟨rfl,rfl⟩ |⟨g,cap,cur,rfl,_⟩
  . exact⟨_,_,rfl⟩
  . exact⟨_,_,rfl⟩
 obtain⟨a,c,rfl⟩:=hv;refine⟨a,c,rfl,⟨S.keep _ _ _ _ hk h.st,λt ht=>C.keep _ _ _ _ _ (hk.and _) (h.oks t ht),⟨h.own.1,h.own.2.imp id λ⟨g,cap,cur,e,hb,r⟩=>⟨g,cap,cur,e,by omega,r⟩⟩,λb hb=> ?_⟩,λb hb=> ?_⟩
 . have:=(h.own.lt b hb).1;exact⟨by omega,by omega,λe=>by cases e⟩
 . rcases hb with hb |hb
   . exact h.exl b hb
   . exact(h.own.lt b hb).2
theorem OwnS.start{α:Type}{C:Rec α}{S:St}{e size B M:Nat}{w:World}(h:StOk S B M w):OwnS C S e size B M w (.slice none 0 0) 0 []:=⟨World.ownsRow_nil _ _ _ _,λt ht=>(by cases ht),h.1,h.2⟩
def rowP {α:Type} (C:Rec α) (a:Option Addr) (ts:List α) (R:Nat->Prop) (w:World):Prop:=RowB R w a (ts.flatMap C.enc)/\∀t∈ts,C.ok R w t
theorem rows_of{α β:Type}{C:Rec α}{F:World->Nat->Nat->β->Prop}{k:Nat}{R:Nat->Prop}{w:World}{a:Option Addr}{ts:List α}{xs:List β}{dec:α->β}(hk:0<k)(hlen:∀t,(C.enc t).length=k)(hF:∀b o t,dec t∈xs->C.ok R w t->(∀j u,(C.enc t)[j]? =some u->w.cell? ⟨b,o+j,none⟩=some u)->F w b o (dec t))(h:rowP C a ts R w)(hd:ts.map dec=xs)(hl:xs.length<=9223372036854775807):RowsIn F k w a xs:=by
 subst hd;refine⟨hl,?_⟩
 rcases h.1 with h0 |⟨g,e,_,hc⟩
 . cases ts with
   |nil=>exact .inl rfl
   |cons t r=>have:=hlen t;rw[List.flatMap_cons]at h0;rw[(List.append_eq_nil_iff.1 h0).1]at this;simp at this;omega
 . refine .inr ⟨g,0,e,λi x hx=> ?_⟩;rw[List.getElem?_map]at hx;obtain⟨t,ht,rfl⟩:=Option.map_eq_some_iff.1 hx;have hm:=List.mem_of_getElem? ht;refine hF g _ t (List.mem_map_of_mem hm) (h.2 t hm) λj u hj=> ?_;have:=hc _ u (flat_at hlen ts i j t u ht hj);rw[Nat.zero_add];exact this
def cellC {α:Type} (enc:α->List Value):Rec α:=⟨enc,λ_ _ _=>True,λ_ _ _ _ _ _ _=>trivial⟩
theorem rows_mem{α:Type}{F:World->Nat->Nat->α->Prop}{k:Nat}{w:World}{a:Option Addr}{xs:List α}(h:RowsIn F k w a xs){x:α}(hx:x∈xs):∃b o,F w b o x:=by obtain⟨i,hi⟩:=List.getElem?_of_mem hx;obtain⟨b,o,_,hF⟩:=h.row hi;exact⟨b,_,hF⟩
theorem rows_cells{α:Type}{F:World->Nat->Nat->α->Prop}{k:Nat}{R:Nat->Prop}{w w0:World}{a a0:Option Addr}{xs:List α}{enc:α->List Value}(hk:0<k)(hlen:∀t,(enc t).length=k)(hF:∀b o t b0 o0,F w0 b0 o0 t->(∀j u,(enc t)[j]? =some u->w.cell? ⟨b,o+j,none⟩=some u)->F w b o t)(h:RowB R w a (xs.flatMap enc))(h0:RowsIn F k w0 a0 xs):RowsIn F k w a xs:=
 rows_of (C:=cellC enc) (dec:=id) hk hlen (λb o t ht _ hc=>by
  obtain⟨b0,o0,hf⟩:=rows_mem h0 ht;exact hF b o t b0 o0 hf hc) ⟨h,λ_ _=>trivial⟩ (List.map_id _) h0.1
theorem made_md{m:Md}{w0 w:World}{R:Nat->Prop}{a0:Option Addr}{c0:Nat}{a1:Option Addr}{c1:Nat}{a2:Option Addr}{c2:Nat}{a3:Option Addr}{c3:Nat}{a4:Option Addr}{c4:Nat}{a5:Option Addr}{c5:Nat}{a6:Option Addr}{c6:Nat}{a7:Option Addr}{c7:Nat}{a8:Option Addr}{c8:Nat}{a9:Option Addr}{c9:Nat}{d0 b1 d2 b3 b4 d5 b6 b7 d8 d9:Option Addr}{k0 k1 k2 k3 k4 k5 k6 k7 k8 k9:Nat}{ts1:List typCT}{ts3:List gloCT}{ts4:List elmCT}{ts5:List datCT}(hsm:Small m)(h:MdAt w0 m a0 c0 a1 c1 a2 c2 a3 c3 a4 c4 a5 c5 a6 c6 a7 c7 a8 c8 a9 c9)(hm1:RowB R w b1 (m.imports.flatMap impC))(hm3:RowB R w b3 (m.tables.flatMap limC))(hm4:RowB R w b4 (m.mems.flatMap limC))(hm7:RowB R w b7 (qU m.start)){fs:List (Int×List Int×Il)}{es:List (ByteArray×Int×Int)}(hF:RowsIn FuncAt 3 w d2 fs)(hE:RowsIn ExportAt 3 w b6 es)(h1:rowP typC d0 ts1 R w)(e1:ts1.map (λt:typCT=>(t.p,t.r))=m.types)(h3:rowP gloC d5 ts3 R w)(e3:ts3.map (λt:gloCT=>(t.ty,t.mu,oneE t.t))=m.globals)(h4:rowP elmC d8 ts4 R w)(e4:ts4.map (λt:elmCT=>(oneE t.t,t.l))=m.elems)(h5:rowP datC d9 ts5 R w)(e5:ts5.map (λt:datCT=>(oneE t.t,t.s))=m.datas):MdAt w {m with funcs:=fs,exports:=es} d0 k0 b1 k1 d2 k2 b3 k3 b4 k4 d5 k5 b6 k6 b7 k7 d8 k8 d9 k9:=by
 refine⟨?_,?_,?_,?_,?_,?_,?_,?_,?_,?_⟩
 . exact rows_of (C:=typC) (by decide) (λ_=>rfl) (λb o t _ hok hc=>⟨⟨_,_,hc 0 _ rfl,hok.1.ints⟩,⟨_,_,hc 1 _ rfl,hok.2.ints⟩⟩) h1 e1 h.types.1
 . exact rows_cells (by decide) (λ_=>rfl) (λb o t b0 o0 h0 hc=>cells_imp b o t h0.1.2 h0.2.1.2 hc) hm1 h.imports
 . exact hF
 . exact rows_cells (by decide) (λ_=>rfl) (λb o t b0 o0 h0 hc=>cells_lim b o t hc) hm3 h.tables
 . exact rows_cells (by decide) (λ_=>rfl) (λb o t b0 o0 h0 hc=>cells_lim b o t hc) hm4 h.mems
 . exact rows_of (C:=gloC) (by decide) (λ_=>rfl) (λb o t _ hok hc=>⟨hc 0 _ rfl,hc 1 _ rfl,il_of (λj u hj=>by
    have:=hc (2+j) u (by rw[Nat.add_comm];exact hj);rw[show o+2+j=o+(2+j) by omega];exact this) hok⟩) h3 e3 h.globals.1
 . exact hE
 . rcases hm7 with h0 |⟨g,e,_,hc⟩
   . exact⟨h.start.1,.inl (by simpa[qU]using h0)⟩
   . refine⟨h.start.1,.inr ⟨g,0,e,λi x hx=> ?_⟩⟩;have:=hc i (.int .i64 x) (by unfold qU;rw[List.getElem?_map,hx];rfl);rw[Nat.zero_add];exact this
 . exact rows_of (C:=elmC) (by decide) (λt=>by simp[elmC,eV]) (λb o t _ hok hc=>⟨il_of (λj u hj=>hc j u (by
    show(eV t.t++_)[j]? =_
    rw[List.getElem?_append_left (List.getElem?_eq_some_iff.1 hj).1];exact hj)) hok.1,⟨_,_,hc 7 _ rfl,hok.2.ints⟩⟩) h4 e4 h.elems.1
 . refine rows_of (C:=datC) (by decide) (λt=>by simp[datC,eV]) (λb o t ht hok hc=>⟨il_of (λj u hj=>hc j u (by
    show(eV t.t++_)[j]? =_
    rw[List.getElem?_append_left (List.getElem?_eq_some_iff.1 hj).1];exact hj)) hok,hc 7 _ rfl,?_⟩) h5 e5 h.datas.1
   have:=(hsm.datas _ ht).1;simp only at this ⊢;omega
theorem made_funcs{m:Md}{w0 w:World}{R:Nat->Prop}{a0:Option Addr}{c0:Nat}{a1:Option Addr}{c1:Nat}{a2:Option Addr}{c2:Nat}{a3:Option Addr}{c3:Nat}{a4:Option Addr}{c4:Nat}{a5:Option Addr}{c5:Nat}{a6:Option Addr}{c6:Nat}{a7:Option Addr}{c7:Nat}{a8:Option Addr}{c8:Nat}{a9:Option Addr}{c9:Nat}{d2:Option Addr}{ts2:List funCT}(hsm:Small m)(h:MdAt w0 m a0 c0 a1 c1 a2 c2 a3 c3 a4 c4 a5 c5 a6 c6 a7 c7 a8 c8 a9 c9)(h2:rowP yJ d2 ts2 R w)(e2:ts2.map (λt:funCT=>(t.n,t.l,t.b))=m.funcs):RowsIn FuncAt 3 w d2 m.funcs:=by
 refine rows_of (C:=yJ) (by decide) (λ_=>rfl) (λb o t ht hok hc=>⟨hc 0 _ rfl,⟨_,_,hc 1 _ rfl,hok.1.ints⟩,⟨_,_,hc 2 _ rfl,?_,hok.2.il⟩⟩) h2 e2 h.funcs.1;have:=(hsm.funcs _ ht).2.1;simp only at this ⊢;omega
theorem own_row{α:Type}{C:Rec α}{R:Nat->Prop}{w:World}{B e size n:Nat}{a:Option Addr}{c:Nat}{ts:List α}(h:w.ownsRow B e size (.slice a n c) n (ts.flatMap C.enc))(hok:∀t∈ts,C.ok R w t):rowP C a ts (λ_=>True) w:=by
 have hk:KeepsR R (λ_=>True) w w:=⟨λ_ _ _=>rfl,λ_ _ _=>trivial⟩
 refine⟨?_,λt ht=>C.keep _ _ _ _ _ hk (hok t ht)⟩
 rcases h.2 with⟨e1,e2⟩ |⟨g,cap,cur,e1,hb,hg,_⟩
 . refine .inl (List.eq_nil_of_length_eq_zero ?_);rw[h.1,e2,Nat.zero_mul]
 . cases e1;refine .inr ⟨g,rfl,trivial,λj u hj=> ?_⟩;have:=h.cells rfl j u hj;rw[add_cell]at this;exact this
theorem yB{α:Type}{S:St}{C:Rec α}{e size B:Nat}{v:Value}{n:Nat}{ts:List α}{R X:Nat->Prop}{w w':World}(h:(stOwn S C e size B v n ts).p R w)(hX:∀b,X b->S.ex b)(f:KeepsR (λb=>R b/\¬X b) (λ_=>True) w w'):w'.ownsRow B e size v n (ts.flatMap C.enc)/\∀t∈ts,C.ok (λ_=>True) w' t:=by
 refine⟨⟨h.2.2.1.1,?_⟩,λt ht=>C.keep _ _ _ _ _ (f.imp λb hb _=>⟨hb.1.1,λx=>hb.2 (hX b x)⟩) (h.2.1 t ht)⟩
 rcases h.2.2.1.2 with e |⟨g,cap,cur,e,hb,hg,r⟩
 . exact .inl e
 . have ho:v.ownBlock=some g:=(by rw[e];rfl)
   exact .inr ⟨g,cap,cur,e,hb,(f.1 g ⟨h.2.2.2 g ho,λx=>(S.exin _ w h.1 g (hX g x)).2 ho.symm⟩ (lt_of_block hg)).trans hg,r⟩
structure CopyF (m:Md) (B:Nat) (a0:Option Addr) (k0:Nat) (a1:Option Addr) (k1:Nat) (a2:Option Addr) (k2:Nat) (a3:Option Addr) (k3:Nat) (a4:Option Addr) (k4:Nat) (a5:Option Addr) (k5:Nat) (a6:Option Addr) (k6:Nat) (a7:Option Addr) (k7:Nat) (a8:Option Addr) (k8:Nat) (a9:Option Addr) (k9:Nat) (w:World) (ts:List funCT):Prop where
 own:w.ownsRow B 53 3 (.slice a2 m.funcs.length k2) m.funcs.length (ts.flatMap yJ.enc)
 oks:∀t∈ts,yJ.ok (λb=>B<=b/\some b≠(Value.slice a2 m.funcs.length k2).ownBlock) w t
 dec:ts.map (λt:funCT=>(t.n,t.l,t.b))=m.funcs
 rest:∀(w':World) (fs:List (Int×List Int×Il)) (a:Option Addr) (k:Nat),KeepsR (λb=>B<=b/\some b≠(Value.slice a2 m.funcs.length k2).ownBlock) (λ_=>True) w w'->RowsIn FuncAt 3 w' a fs->MdAt w' {m with funcs:=fs} a0 k0 a1 k1 a k a3 k3 a4 k4 a5 k5 a6 k6 a7 k7 a8 k8 a9 k9
structure CopyE (m:Md) (B:Nat) (a0:Option Addr) (k0:Nat) (a1:Option Addr) (k1:Nat) (a2:Option Addr) (k2:Nat) (a3:Option Addr) (k3:Nat) (a4:Option Addr) (k4:Nat) (a5:Option Addr) (k5:Nat) (a6:Option Addr) (k6:Nat) (a7:Option Addr) (k7:Nat) (a8:Option Addr) (k8:Nat) (a9:Option Addr) (k9:Nat) (w:World):Prop where
 row:RowB (λb=>B<=b) w a6 (m.exports.flatMap jU)
 own:0<m.exports.length->w.ownsRow B 63 3 (.slice a6 m.exports.length k6) m.exports.length (m.exports.flatMap jU)
 rest:∀(w':World) (es:List (ByteArray×Int×Int)) (a:Option Addr) (k:Nat),KeepsR (λb=>B<=b/\¬bl a6 (m.exports.flatMap jU) b) (λ_=>True) w w'->RowsIn ExportAt 3 w' a es->MdAt w' {m with exports:=es} a0 k0 a1 k1 a2 k2 a3 k3 a4 k4 a5 k5 a k a7 k7 a8 k8 a9 k9
theorem made_copy{m:Md}{w0 w:World}{B D:Nat}{a0:Option Addr}{c0:Nat}{a1:Option Addr}{c1:Nat}{a2:Option Addr}{c2:Nat}{a3:Option Addr}{c3:Nat}{a4:Option Addr}{c4:Nat}{a5:Option Addr}{c5:Nat}{a6:Option Addr}{c6:Nat}{a7:Option Addr}{c7:Nat}{a8:Option Addr}{c8:Nat}{a9:Option Addr}{c9:Nat}{d0 b1 d2 b3 b4 d5 b6 b7 d8 d9:Option Addr}{k0 k1 k2 k3 k4 k5 k6 k7 k8 k9:Nat}{ts1:List typCT}{ts2:List funCT}{ts3:List gloCT}{ts4:List elmCT}{ts5:List datCT}(hsm:Small m)(h:MdAt w0 m a0 c0 a1 c1 a2 c2 a3 c3 a4 c4 a5 c5 a6 c6 a7 c7 a8 c8 a9 c9)(hp:(stOwn (stOwn (stOwn (stOwn (stOwn (stMade m b1 b3 b4 b6 k6 b7) typC 44 2 D (.slice d0 m.types.length k0) m.types.length ts1) yJ 53 3 D (.slice d2 m.funcs.length k2) m.funcs.length ts2) gloC 51 9 D (.slice d5 m.globals.length k5) m.globals.length ts3) elmC 67 8 D (.slice d8 m.elems.length k8) m.elems.length ts4) datC 69 8 D (.slice d9 m.datas.length k9) m.datas.length ts5).p (λb=>B<=b) w)(hBD:B<=D)(e1:ts1.map (λt:typCT=>(t.p,t.r))=m.types)(e2:ts2.map (λt:funCT=>(t.n,t.l,t.b))=m.funcs)(e3:ts3.map (λt:gloCT=>(t.ty,t.mu,oneE t.t))=m.globals)(e4:ts4.map (λt:elmCT=>(oneE t.t,t.l))=m.elems)(e5:ts5.map (λt:datCT=>(oneE t.t,t.s))=m.datas):MdAt w m d0 k0 b1 k1 d2 k2 b3 k3 b4 k4 d5 k5 b6 k6 b7 k7 d8 k8 d9 k9/\CopyF m B d0 k0 b1 k1 d2 k2 b3 k3 b4 k4 d5 k5 b6 k6 b7 k7 d8 k8 d9 k9 w ts2/\CopyE m B d0 k0 b1 k1 d2 k2 b3 k3 b4 k4 d5 k5 b6 k6 b7 k7 d8 k8 d9 k9 w:=by
 have h5:=hp;have h4:=h5.1;have h3:=h4.1;have h2:=h3.1;have h1:=h2.1;have h0:=h1.1
 have hF:∀w',KeepsR (λb=>B<=b/\some b≠(Value.slice d2 m.funcs.length k2).ownBlock) (λ_=>True) w w'->∀fs es a a' k k',RowsIn FuncAt 3 w' a fs->RowsIn ExportAt 3 w' a' es->MdAt w' {m with funcs:=fs,exports:=es} d0 k0 b1 k1 a k b3 k3 b4 k4 d5 k5 a' k' b7 k7 d8 k8 d9 k9:=by
  intro w' f fs es a a' k k' hf he;have x2:∀b,(Value.slice d2 m.funcs.length k2).ownBlock=some b->(stOwn (stOwn (stMade m b1 b3 b4 b6 k6 b7) typC 44 2 D (.slice d0 m.types.length k0) m.types.length ts1) yJ 53 3 D (.slice d2 m.funcs.length k2) m.funcs.length ts2).ex b:=λb hb=>.inr hb;obtain⟨o5,q5⟩:=yB h5 (X:=λb=>(Value.slice d2 m.funcs.length k2).ownBlock=some b) (λb hb=>.inl (.inl (x2 b hb))) (f.imp λb hb _=>⟨hb.1,λe=>hb.2 e.symm⟩);obtain⟨o4,q4⟩:=yB h4 (X:=λb=>(Value.slice d2 m.funcs.length k2).ownBlock=some b) (λb hb=>.inl (x2 b hb)) (f.imp λb hb _=>⟨hb.1.1,λe=>hb.2 e.symm⟩);obtain⟨o3,q3⟩:=yB h3 (X:=λb=>(Value.slice d2 m.funcs.length k2).ownBlock=some b) x2 (f.imp λb hb _=>⟨hb.1.1.1,λe=>hb.2 e.symm⟩);have g1:=(stOwn (stMade m b1 b3 b4 b6 k6 b7) typC 44 2 D (.slice d0 m.types.length k0) m.types.length ts1).keep _ _ _ _ (f.imp λb hb _=>⟨hb.1.1.1.1,hb.2⟩) h1;obtain⟨⟨r1,r3,r4,r7,_⟩,r6⟩:=g1.1;have tt:∀R:Nat->Prop,KeepsR R (λ_=>True) w' w':=λR=>⟨λ_ _ _=>rfl,λ_ _ _=>trivial⟩
  exact made_md (R:=λ_=>True) hsm h (r1.keep (tt _)) (r3.keep (tt _)) (r4.keep (tt _)) (r7.keep (tt _)) hf he (own_row g1.2.2.1 g1.2.1) e1 (own_row o3 q3) e3 (own_row o4 q4) e4 (own_row o5 q5) e5
 have hfun:∀w',w'.ownsRow D 53 3 (.slice d2 m.funcs.length k2) m.funcs.length (ts2.flatMap yJ.enc)->(∀t∈ts2,yJ.ok (λ_=>True) w' t)->RowsIn FuncAt 3 w' d2 m.funcs:=λw' o q=>made_funcs hsm h (own_row o q) e2;have hexp:∀w' (R:Nat->Prop),RowB R w' b6 (m.exports.flatMap jU)->RowsIn ExportAt 3 w' b6 m.exports:=λw' R r6=>rows_cells (by decide) (λ_=>rfl) (λb o t b0 o0 h0 hc=>cells_exp b o t h0.1.2 hc) r6 h.exports;have tw:∀R:Nat->Prop,KeepsR R (λ_=>True) w w:=λR=>⟨λ_ _ _=>rfl,λ_ _ _=>trivial⟩
 have hf0:=hfun w h2.2.2.1 λt ht=>yJ.keep _ _ _ _ _ (tw _) (h2.2.1 t ht);have he0:=hexp w _ h0.2;refine⟨hF w (tw _) m.funcs m.exports _ _ _ _ hf0 he0,⟨⟨h2.2.2.1.1,h2.2.2.1.2.imp id λ⟨g,cap,cur,e,hb,r⟩=>⟨g,cap,cur,e,by omega,r⟩⟩,λt ht=>yJ.keep _ _ _ _ _ ⟨λ_ _ _=>rfl,λb hb _=>⟨hb.1.1.1.1.1,hb.1.2⟩⟩ (h2.2.1 t ht),e2,λw' fs a k f hf=>hF w' f fs m.exports a b6 k k6 hf (hexp w' (λ_=>True) (h0.2.keep (f.imp λb hb _=>⟨hb.1.1.1.1.1,hb.1.2⟩)))⟩,h0.2.keep ⟨λ_ _ _=>rfl,λb hb _=>hb.1.1.1.1.1⟩,λhp=> ?_,λw' es a k f he=> ?_⟩
 . have o:=h0.1.2.2.2.2 hp;exact⟨o.1,o.2.imp id λ⟨g,cap,cur,e,hb,r⟩=>⟨g,cap,cur,e,(h0.2.bl g (own_bl hp (by decide) o (by rw[e];rfl))).1.1.1.1.1,r⟩⟩
 have x6:∀b,bl b6 (m.exports.flatMap jU) b->(stMade m b1 b3 b4 b6 k6 b7).ex b:=λb hb=>hb;obtain⟨o5,q5⟩:=yB h5 (X:=bl b6 (m.exports.flatMap jU)) (λb hb=>.inl (.inl (.inl (.inl (x6 b hb))))) f;obtain⟨o4,q4⟩:=yB h4 (X:=bl b6 (m.exports.flatMap jU)) (λb hb=>.inl (.inl (.inl (x6 b hb)))) (f.imp λb hb _=>⟨hb.1.1,hb.2⟩);obtain⟨o3,q3⟩:=yB h3 (X:=bl b6 (m.exports.flatMap jU)) (λb hb=>.inl (.inl (x6 b hb))) (f.imp λb hb _=>⟨hb.1.1.1,hb.2⟩);obtain⟨o2,q2⟩:=yB h2 (X:=bl b6 (m.exports.flatMap jU)) (λb hb=>.inl (x6 b hb)) (f.imp λb hb _=>⟨hb.1.1.1.1,hb.2⟩);obtain⟨o1,q1⟩:=yB h1 (X:=bl b6 (m.exports.flatMap jU)) x6 (f.imp λb hb _=>⟨hb.1.1.1.1.1,hb.2⟩);obtain⟨⟨r1,r3,r4,r7,_⟩,r6⟩:=h0;exact made_md (R:=λ_=>True) hsm h (r1.keep (f.imp λb hb _=>⟨hb.1.1.1.1.1.1,hb.2⟩)) (r3.keep (f.imp λb hb _=>⟨hb.1.1.1.1.1.1,hb.2⟩)) (r4.keep (f.imp λb hb _=>⟨hb.1.1.1.1.1.1,hb.2⟩)) (r7.keep (f.imp λb hb _=>⟨hb.1.1.1.1.1.1,hb.2⟩)) (hfun w' o2 q2) he (own_row o1 q1) e1 (own_row o3 q3) e3 (own_row o4 q4) e4 (own_row o5 q5) e5
theorem row_apart{R:Nat->Prop}{w:World}{a b6:Option Addr}{news n6:List Value}(h:RowB R w a news)(h6:RowB R w b6 n6)(hd:news≠[]->n6≠[]->∃(j:Nat) (u v:Value),news[j]? =some u/\n6[j]? =some v/\u≠v):RowB (λb=>R b/\¬bl b6 n6 b) w a news:=by
 rcases h with h |⟨g,e,hg,hc⟩
 . exact .inl h
 . by_cases hn:news=[]
   . exact .inl hn
   . refine .inr ⟨g,e,⟨hg,λ⟨h1,h2⟩=> ?_⟩,hc⟩
     rcases h6 with h6 |⟨g6,e6,_,hc6⟩
     . exact h1 h6
     . rw[h2]at e6;cases e6;obtain⟨j,u,v,hu,hv,huv⟩:=hd hn h1;have:=(hc j u hu).symm.trans (hc6 j v hv);exact huv (Option.some.inj this)
theorem flat_nth{α:Type}{enc:α->List Value}{j:Nat}{P:Value->Prop}(henc:∀x,∃u,(enc x)[j]? =some u/\P u){xs:List α}(h:xs.flatMap enc≠[]):∃u,(xs.flatMap enc)[j]? =some u/\P u:=by
 cases xs with
 |nil=>exact absurd rfl h
 |cons x r=>obtain⟨u,h1,h2⟩:=henc x;exact⟨u,by rw[List.flatMap_cons,List.getElem?_append_left (List.getElem?_eq_some_iff.1 h1).1];exact h1,h2⟩
theorem rows_apart{m:Md}{B M:Nat}{w1 w:World}{b1:Option Addr}{q1:Nat}{b3:Option Addr}{q3:Nat}{b4:Option Addr}{q4:Nat}{b6:Option Addr}{q6:Nat}{b7:Option Addr}{q7:Nat}(h:CE m B M w1 w b1 q1 b3 q3 b4 q4 b6 q6 b7 q7):RowB (λb=>(B<=b/\b≠M)/\¬bl b6 (m.exports.flatMap jU) b) w b1 (m.imports.flatMap impC)/\RowB (λb=>(B<=b/\b≠M)/\¬bl b6 (m.exports.flatMap jU) b) w b3 (m.tables.flatMap limC)/\RowB (λb=>(B<=b/\b≠M)/\¬bl b6 (m.exports.flatMap jU) b) w b4 (m.mems.flatMap limC)/\RowB (λb=>(B<=b/\b≠M)/\¬bl b6 (m.exports.flatMap jU) b) w b7 (qU m.start):=by
 refine⟨row_apart h.r1 h.r6 λh1 h2=> ?_,row_apart h.r3 h.r6 λh1 h2=> ?_,row_apart h.r4 h.r6 λh1 h2=> ?_,row_apart h.r7 h.r6 λh1 h2=> ?_⟩
 . obtain⟨u,hu,s,rfl⟩:=flat_nth (j:=1) (P:=λu=>∃s,u=.string s) (λx=>⟨_,rfl,_,rfl⟩) h1;obtain⟨v,hv,s,rfl⟩:=flat_nth (j:=1) (P:=λu=>∃s,u=.int .i64 s) (λx=>⟨_,rfl,_,rfl⟩) h2;exact⟨1,_,_,hu,hv,by simp⟩
 . obtain⟨u,hu,s,rfl⟩:=flat_nth (j:=0) (P:=λu=>∃s,u=.int .i64 s) (λx=>⟨_,rfl,_,rfl⟩) h1;obtain⟨v,hv,s,rfl⟩:=flat_nth (j:=0) (P:=λu=>∃s,u=.string s) (λx=>⟨_,rfl,_,rfl⟩) h2;exact⟨0,_,_,hu,hv,by simp⟩
 . obtain⟨u,hu,s,rfl⟩:=flat_nth (j:=0) (P:=λu=>∃s,u=.int .i64 s) (λx=>⟨_,rfl,_,rfl⟩) h1;obtain⟨v,hv,s,rfl⟩:=flat_nth (j:=0) (P:=λu=>∃s,u=.string s) (λx=>⟨_,rfl,_,rfl⟩) h2;exact⟨0,_,_,hu,hv,by simp⟩
 . obtain⟨v,hv,s,rfl⟩:=flat_nth (j:=0) (P:=λu=>∃s,u=.string s) (λx=>⟨_,rfl,_,rfl⟩) h2;cases hs:m.start with
   |nil=>exact absurd (by rw[hs];rfl) h1
   |cons x r=>exact⟨0,.int .i64 x,_,rfl,hv,by simp⟩
theorem copy_own(m:Md)(hsm:Small m){a0:Option Addr}{k0:Nat}{a1:Option Addr}{k1:Nat}{a2:Option Addr}{k2:Nat}{a3:Option Addr}{k3:Nat}{a4:Option Addr}{k4:Nat}{a5:Option Addr}{k5:Nat}{a6:Option Addr}{k6:Nat}{a7:Option Addr}{k7:Nat}{a8:Option Addr}{k8:Nat}{a9:Option Addr}{k9:Nat}(w:World)(h:MdAt w m a0 k0 a1 k1 a2 k2 a3 k3 a4 k4 a5 k5 a6 k6 a7 k7 a8 k8 a9 k9):Calls Tryz.prog 11 #[mdV m a0 k0 a1 k1 a2 k2 a3 k3 a4 k4 a5 k5 a6 k6 a7 k7 a8 k8 a9 k9] w λe w'=>∃b0 q0 b1 q1 b2 q2 b3 q3 b4 q4 b5 q5 b6 q6 b7 q7 b8 q8 b9 q9,e=.returned (mdV m b0 q0 b1 q1 b2 q2 b3 q3 b4 q4 b5 q5 b6 q6 b7 q7 b8 q8 b9 q9)/\(MdAt w' m b0 q0 b1 q1 b2 q2 b3 q3 b4 q4 b5 q5 b6 q6 b7 q7 b8 q8 b9 q9/\(∃ts,CopyF m w.heap.size b0 q0 b1 q1 b2 q2 b3 q3 b4 q4 b5 q5 b6 q6 b7 q7 b8 q8 b9 q9 w' ts)/\CopyE m w.heap.size b0 q0 b1 q1 b2 q2 b3 q3 b4 q4 b5 q5 b6 q6 b7 q7 b8 q8 b9 q9 w')/\Below w.heap.size w w':=by
 have hmix:Tryz.prog.follows .mixedOrders=true:=(by kernel_rfl)
 obtain⟨wA,hwA⟩:∃wA,wA=(w.alloc (.cells #[.slice a0 m.types.length k0,.slice a1 m.imports.length k1,.slice a2 m.funcs.length k2,.slice a3 m.tables.length k3,.slice a4 m.mems.length k4,.slice a5 m.globals.length k5,.slice a6 m.exports.length k6,.slice a7 m.start.length k7,.slice a8 m.elems.length k8,.slice a9 m.datas.length k9] 32)).alloc (.cells #[.slice none 0 0,.slice none 0 0,.slice none 0 0,.slice none 0 0,.slice none 0 0,.slice none 0 0,.slice none 0 0,.slice none 0 0,.slice none 0 0,.slice none 0 0] 32):=⟨_,rfl⟩
 have hbA:Below w.heap.size w wA:=(by rw[hwA];exact((Below.refl _ _).alloc (Nat.le_refl _) _).alloc (by simp) _)
 have hszA:wA.heap.size=w.heap.size+2:=(by rw[hwA];simp)
 have HM:=zh (h.keep (zA hbA));have hbx:Box wA w.heap.size #[.slice a0 m.types.length k0,.slice a1 m.imports.length k1,.slice a2 m.funcs.length k2,.slice a3 m.tables.length k3,.slice a4 m.mems.length k4,.slice a5 m.globals.length k5,.slice a6 m.exports.length k6,.slice a7 m.start.length k7,.slice a8 m.elems.length k8,.slice a9 m.datas.length k9]:=(by rw[hwA];exact(box_new w _ _).keep (keeps_new _ _))
 have hbr:Hid (Box wA (w.heap.size+1) #[.slice none 0 0,.slice none 0 0,.slice none 0 0,.slice none 0 0,.slice none 0 0,.slice none 0 0,.slice none 0 0,.slice none 0 0,.slice none 0 0,.slice none 0 0]):=zh (by rw[hwA];exact box_new2 w _ _ _);have hfr:Hid (∀j,wA.frozen? ⟨w.heap.size+1,j,none⟩=false):=zh (λj=>by rw[hwA];exact World.frozen?_alloc_at _ _ _ _ (by simp));have hrA:Hid (wA.heap[w.heap.size+1]? =some (.cells #[.slice none 0 0,.slice none 0 0,.slice none 0 0,.slice none 0 0,.slice none 0 0,.slice none 0 0,.slice none 0 0,.slice none 0 0,.slice none 0 0,.slice none 0 0] 32 (0,0))):=zh (by rw[hwA];exact heap_alloc2_new _ _ _);unfold mdV;go_enter Tryz.func11,Tryz.ntmps11
 go_upto_region 1 with fail
 rw[<-hwA]
 have hCH:CH m a1 k1 a3 k3 a4 k4 a6 k6 a7 k7 (w.heap.size+2) w.heap.size wA:=
  ⟨hszA,hbx 1 _ rfl,hbx 3 _ rfl,hbx 4 _ rfl,hbx 6 _ rfl,hbx 7 _ rfl,HM.out.imports,HM.out.tables,HM.out.mems,HM.out.exports,HM.out.start,hsm.l1,hsm.l3,hsm.l4,hsm.l6,hsm.l7⟩
 refine copy_region1 (f:=λ_=>undef) hmix hCH ?_;intro f' M b1 q1 b3 q3 b4 q4 b6 q6 b7 q7 w2 e3 hce;have hBM:w.heap.size+2<=M:=hce.lo;have nb:Hid (NBox M w2 #[.slice none 0 0,.slice b1 m.imports.length q1,.slice none 0 0,.slice b3 m.tables.length q3,.slice b4 m.mems.length q4,.slice none 0 0,.slice b6 m.exports.length q6,.slice b7 m.start.length q7,.slice none 0 0,.slice none 0 0]):=zh ⟨hce.cells,hce.frozen,hce.hi⟩
 have hst:Hid (StOk (stMade m b1 b3 b4 b6 q6 b7) (w.heap.size+2) M w2):=zh (by
  have hk:KeepsR (λb=>(w.heap.size+2<=b/\b≠M)/\¬bl b6 (m.exports.flatMap jU) b) (λb=>StR (w.heap.size+2) M (.slice none 0 0) b/\¬bl b6 (m.exports.flatMap jU) b) w2 w2:=⟨λ_ _ _=>rfl,λb hb _=>⟨⟨hb.1.1,hb.1.2,λe=>by cases e⟩,hb.2⟩⟩
  have hk6:KeepsR (λb=>w.heap.size+2<=b/\b≠M) (StR (w.heap.size+2) M (.slice none 0 0)) w2 w2:=⟨λ_ _ _=>rfl,λb hb _=>⟨hb.1,hb.2,λe=>by cases e⟩⟩
  obtain⟨x1,x3,x4,x7⟩:=rows_apart hce;refine⟨⟨⟨x1.keep hk,x3.keep hk,x4.keep hk,x7.keep hk,hce.o6⟩,hce.r6.keep hk6⟩,λb hb=> ?_⟩;obtain⟨hn,e⟩:=hb
  rcases hce.r6 with h |⟨g,e2,_,hc⟩
  . exact absurd h hn
  . rw[e]at e2;cases e2;cases hq:m.exports.flatMap jU with
    |nil=>exact absurd hq hn
    |cons y r=>exact World.block_lt_of_cell? w2 _ (hc 0 y (by rw[hq];rfl)))
 obtain⟨S1,hS1⟩:∃S1,S1=stMade m b1 b3 b4 b6 q6 b7:=⟨_,rfl⟩
 rw[<-hS1]at hst;have hb:Hid (Below (w.heap.size+2) wA w2):=zh hce.below;replace hbx:=zh hbx;replace hsm:=zh hsm;replace hS1:=zh hS1;replace hbA:=zh hbA;replace hszA:=zh hszA;replace hmix:=zh hmix;clear hCH hce hwA h;unfold fr;rw[e3];clear e3;go_wp2_with fail;go_loopw [4] (λvi wr=>∃(i:Nat) (v:Value) (ts:List typCT),vi=.int .i64 i/\i<=m.types.length/\Hid (Below (w.heap.size+2) wA wr)/\Hid (NBox M wr #[v,.slice b1 m.imports.length q1,.slice none 0 0,.slice b3 m.tables.length q3,.slice b4 m.mems.length q4,.slice none 0 0,.slice b6 m.exports.length q6,.slice b7 m.start.length q7,.slice none 0 0,.slice none 0 0])/\Hid (OwnS typC S1 44 2 (w.heap.size+2) M wr v i ts)/\Hid (ts.map (λt:typCT=>(t.p,t.r))=m.types.take i)) (λvi _=>m.types.length-(intOf vi).toNat)
 case atStart=>exact⟨0,.slice none 0 0,[],rfl,Nat.zero_le _,hb,nb,zh (OwnS.start hst.out),zh rfl⟩
 case round=>
  clear hb nb hst;obtain⟨i,v,ts,rfl,hi,hb,nb,own,hd⟩:=hrel;have kA:Keeps wA wr:=zA (by rw[hszA.out];exact hb.out);have xc0:wr.cell? ⟨w.heap.size,0,none⟩=some (.slice a0 m.types.length k0):=kA _ _ (hbx.out 0 _ rfl)
  by_cases hlt:i<m.types.length
  . obtain⟨tt,ht⟩:∃t,m.types[i]? =some t:=⟨_,List.getElem?_eq_getElem hlt⟩
    have hmem:=List.mem_of_getElem? ht;have hlen:=hsm.out.l0;obtain⟨b,o,rfl,hrow⟩:=HM.out.types.row ht;obtain⟨ps,rs⟩:=tt;obtain⟨⟨x0,y0,cp,ip⟩,⟨x1,y1,cr,ir⟩⟩:=hrow;obtain⟨hp1,hp2⟩:=hsm.out.types _ hmem;simp only at cp ip cr ir hp1 hp2
    have hmap:∀t:typCT,(t.p,t.r)=(ps,rs)->(ts++[t]).map (λt:typCT=>(t.p,t.r))=m.types.take (i+1):=λt hp=>by
     rw[List.map_append,hd.out,List.take_add_one,ht];simp[hp]
    have cc0:=hbx.out 0 _ rfl
    go_upto_region 5 with fail
    refine wp_as_then ?_;intro K hK
    go_cut [] from 31 to 59 (λwx=>∃g cap t,Hid ((t.p,t.r)=(ps,rs))/\Hid (Below (w.heap.size+2) wA wx)/\Hid (NBox M wx #[.slice (some ⟨g,0,none⟩) (i+1) cap,.slice b1 m.imports.length q1,.slice none 0 0,.slice b3 m.tables.length q3,.slice b4 m.mems.length q4,.slice none 0 0,.slice b6 m.exports.length q6,.slice b7 m.start.length q7,.slice none 0 0,.slice none 0 0])/\Hid (OwnS typC S1 44 2 (w.heap.size+2) M wx (.slice (some ⟨g,0,none⟩) (i+1) cap) (i+1) (ts++[t])))
    case first=>refine wp_fn _ 180 rfl (reg5 S1 hmix.out hszA.out hBM hb.out nb.out rfl own.out rfl rfl rfl cc0 hlt hlen cp ip cr ir hp1 hp2 ?_);intro f w' g cap t hP h1 h2 h3;go_wp2_with fail;go_meet;exact⟨g,cap,t,zh hP,zh h1,zh h2,zh h3⟩
    case rest=>obtain⟨g,cap,t,hp,hb2,nb2,own2⟩:=hcut;replace hmap:=zh (hmap t hp.out);clear hb nb own hd hp ht hmem kA cc0;refine(hK _ _).2 ?_;clear hK;go_wp2;exact⟨⟨i+1,_,_,by simp,by omega,hb2,nb2,own2,hmap⟩,by simp[intOf];omega⟩
  . have hiN:i=m.types.length:=(by omega)
    subst hiN;obtain⟨d0,r0,rfl,hst⟩:=own.out.shut hBM;obtain⟨ts1,hts1⟩:∃s,s=ts:=⟨_,rfl⟩
    rw[<-hts1]at hst hd;replace hst:=zh hst;have hd1:=zh (hd.out.trans List.take_length);clear own hd kA hts1 hi ts;obtain⟨S2,hS2⟩:∃s,s=stOwn S1 typC 44 2 (w.heap.size+2) (.slice d0 m.types.length r0) m.types.length ts1:=⟨_,rfl⟩
    rw[<-hS2]at hst;replace hS2:=zh hS2;go_wp2_with fail;clear xc0 hlt;go_loopw [5] (λvi wr=>∃(i:Nat) (v:Value) (ts:List funCT),vi=.int .i64 i/\i<=m.funcs.length/\Hid (Below (w.heap.size+2) wA wr)/\Hid (NBox M wr #[.slice d0 m.types.length r0,.slice b1 m.imports.length q1,v,.slice b3 m.tables.length q3,.slice b4 m.mems.length q4,.slice none 0 0,.slice b6 m.exports.length q6,.slice b7 m.start.length q7,.slice none 0 0,.slice none 0 0])/\Hid (OwnS yJ S2 53 3 (w.heap.size+2) M wr v i ts)/\Hid (ts.map (λt:funCT=>(t.n,t.l,t.b))=m.funcs.take i)) (λvi _=>m.funcs.length-(intOf vi).toNat)
    case atStart=>exact⟨0,.slice none 0 0,[],rfl,Nat.zero_le _,hb,nb,zh (OwnS.start hst.out),zh rfl⟩
    case round=>
     clear hb nb hst;obtain⟨i,v,ts,rfl,hi,hb,nb,own,hd⟩:=hrel;have kA:Keeps wA wr:=zA (by rw[hszA.out];exact hb.out);have xc2:wr.cell? ⟨w.heap.size,2,none⟩=some (.slice a2 m.funcs.length k2):=kA _ _ (hbx.out 2 _ rfl)
     by_cases hlt:i<m.funcs.length
     . obtain⟨tt,ht⟩:∃t,m.funcs[i]? =some t:=⟨_,List.getElem?_eq_getElem hlt⟩
       have hmem:=List.mem_of_getElem? ht;have hlen:=hsm.out.l2;obtain⟨b,o,rfl,hrow⟩:=HM.out.funcs.row ht;obtain⟨fn,ls,body⟩:=tt;obtain⟨cn,⟨x0,y0,cl,il⟩,⟨x1,y1,cb,lb,ib⟩⟩:=hrow;obtain⟨hp1,hp2,hp3⟩:=hsm.out.funcs _ hmem;simp only at cn cl il cb lb ib hp1 hp2 hp3
       have hmap:∀t:funCT,(t.n,t.l,t.b)=(fn,ls,body)->(ts++[t]).map (λt:funCT=>(t.n,t.l,t.b))=m.funcs.take (i+1):=λt hp=>by
        rw[List.map_append,hd.out,List.take_add_one,ht];simp[hp]
       have cc2:=hbx.out 2 _ rfl
       go_upto_region 9 with fail
       refine wp_as_then ?_;intro K hK
       go_cut [] from 60 to 93 (λwx=>∃g cap t,Hid ((t.n,t.l,t.b)=(fn,ls,body))/\Hid (Below (w.heap.size+2) wA wx)/\Hid (NBox M wx #[.slice d0 m.types.length r0,.slice b1 m.imports.length q1,.slice (some ⟨g,0,none⟩) (i+1) cap,.slice b3 m.tables.length q3,.slice b4 m.mems.length q4,.slice none 0 0,.slice b6 m.exports.length q6,.slice b7 m.start.length q7,.slice none 0 0,.slice none 0 0])/\Hid (OwnS yJ S2 53 3 (w.heap.size+2) M wx (.slice (some ⟨g,0,none⟩) (i+1) cap) (i+1) (ts++[t])))
       case first=>refine wp_fn _ 180 rfl (reg9 S2 hmix.out hszA.out hBM hb.out nb.out rfl own.out rfl rfl rfl cc2 hlt hlen cn cl il cb ib hp1 hp2 hp3 ?_);intro f w' g cap t hP h1 h2 h3;go_wp2_with fail;go_meet;exact⟨g,cap,t,zh hP,zh h1,zh h2,zh h3⟩
       case rest=>obtain⟨g,cap,t,hp,hb2,nb2,own2⟩:=hcut;replace hmap:=zh (hmap t hp.out);clear hb nb own hd hp ht hmem kA cc2;refine(hK _ _).2 ?_;clear hK;go_wp2;exact⟨⟨i+1,_,_,by simp,by omega,hb2,nb2,own2,hmap⟩,by simp[intOf];omega⟩
     . have hiN:i=m.funcs.length:=(by omega)
       subst hiN;obtain⟨d2,r2,rfl,hst⟩:=own.out.shut hBM;obtain⟨ts2,hts2⟩:∃s,s=ts:=⟨_,rfl⟩
       rw[<-hts2]at hst hd;replace hst:=zh hst;have hd2:=zh (hd.out.trans List.take_length);clear own hd kA hts2 hi ts;obtain⟨S3,hS3⟩:∃s,s=stOwn S2 yJ 53 3 (w.heap.size+2) (.slice d2 m.funcs.length r2) m.funcs.length ts2:=⟨_,rfl⟩
       rw[<-hS3]at hst;replace hS3:=zh hS3;go_wp2_with fail;clear xc2 hlt;go_loopw [6] (λvi wr=>∃(i:Nat) (v:Value) (ts:List gloCT),vi=.int .i64 i/\i<=m.globals.length/\Hid (Below (w.heap.size+2) wA wr)/\Hid (NBox M wr #[.slice d0 m.types.length r0,.slice b1 m.imports.length q1,.slice d2 m.funcs.length r2,.slice b3 m.tables.length q3,.slice b4 m.mems.length q4,v,.slice b6 m.exports.length q6,.slice b7 m.start.length q7,.slice none 0 0,.slice none 0 0])/\Hid (OwnS gloC S3 51 9 (w.heap.size+2) M wr v i ts)/\Hid (ts.map (λt:gloCT=>(t.ty,t.mu,oneE t.t))=m.globals.take i)) (λvi _=>m.globals.length-(intOf vi).toNat)
       case atStart=>exact⟨0,.slice none 0 0,[],rfl,Nat.zero_le _,hb,nb,zh (OwnS.start hst.out),zh rfl⟩
       case round=>
        clear hb nb hst;obtain⟨i,v,ts,rfl,hi,hb,nb,own,hd⟩:=hrel;have kA:Keeps wA wr:=zA (by rw[hszA.out];exact hb.out);have xc5:wr.cell? ⟨w.heap.size,5,none⟩=some (.slice a5 m.globals.length k5):=kA _ _ (hbx.out 5 _ rfl)
        by_cases hlt:i<m.globals.length
        . obtain⟨tt,ht⟩:∃t,m.globals[i]? =some t:=⟨_,List.getElem?_eq_getElem hlt⟩
          have hmem:=List.mem_of_getElem? ht;have hlen:=hsm.out.l5;obtain⟨b,o,rfl,hrow⟩:=HM.out.globals.row ht;obtain⟨ty,mu,op,x,y,n,ls,body,els⟩:=tt;obtain⟨qa,qb,hrow⟩:=hrow;obtain⟨⟨qc0,qc1,qc2,qc3⟩,⟨x4,y4,qc4,j4⟩,⟨x5,y5,qc5,l5,j5⟩,⟨x6,y6,qc6,l6,j6⟩,_⟩:=hrow;have j5:=in0 j5;have j6:=in0 j6;have hp1:=hsm.out.globals _ hmem;simp only at qa qb qc0 qc1 qc2 qc3 qc4 j4 qc5 l5 j5 qc6 l6 j6
          have hmap:∀t:gloCT,t.ty=ty/\t.mu=mu/\vU [t.t] .nil=.cons op x y n ls body els .nil->(ts++[t]).map (λt:gloCT=>(t.ty,t.mu,oneE t.t))=m.globals.take (i+1):=λt hp=>by
           rw[List.map_append,hd.out,List.take_add_one,ht];simp only[List.map_cons,List.map_nil];rw[one_of hp.2.2,hp.1,hp.2.1];rfl
          have cc5:=hbx.out 5 _ rfl;have hp1:Sml (.cons op x y n ls body els .nil):=hp1;have z0:=kA _ _ qa;have z1:=kA _ _ qb;have z2:=kA _ _ qc0;have z3:=kA _ _ qc1;have z4:=kA _ _ qc2;have z5:=kA _ _ qc3;have z6:=kA _ _ qc4;have z7:=kA _ _ qc5;have z8:=kA _ _ qc6;have kw:Hid (Keeps wA wr):=zh kA;obtain⟨W2,hW2⟩:∃W2,W2=(wr.alloc (.cells #[.int .i64 ty,.bool mu,.int .i64 op,.int .i64 x,.int .i64 y,.int .i64 n,.slice x4 ls.length y4,.slice x5 body.len y5,.slice x6 els.len y6] 51)).alloc (.cells #[.int .i64 op,.int .i64 x,.int .i64 y,.int .i64 n,.slice x4 ls.length y4,.slice x5 body.len y5,.slice x6 els.len y6] 49):=⟨_,rfl⟩
          have bW:Below wr.heap.size wr W2:=(by rw[hW2];exact((Below.refl _ _).alloc (Nat.le_refl _) _).alloc (by simp) _)
          have sW:W2.heap.size=wr.heap.size+2:=(by rw[hW2];simp)
          have hbx9:Box W2 wr.heap.size #[.int .i64 ty,.bool mu,.int .i64 op,.int .i64 x,.int .i64 y,.int .i64 n,.slice x4 ls.length y4,.slice x5 body.len y5,.slice x6 els.len y6]:=(by rw[hW2];exact(box_new wr _ _).keep (keeps_new _ _))
          have hf9:∀j,W2.frozen? ⟨wr.heap.size,j,none⟩=false:=λj=>by rw[hW2,World.frozen?_alloc_past _ _ _ (by simp)];exact World.frozen?_alloc_at _ _ _ _ (by simp)
          have hbx7:∀j u,([.int .i64 op,.int .i64 x,.int .i64 y,.int .i64 n,.slice x4 ls.length y4,.slice x5 body.len y5,.slice x6 els.len y6]:List Value)[j]? =some u->W2.cell? ⟨wr.heap.size+1,j,none⟩=some u:=λj u hj=>by
           rw[hW2];refine(World.cell?_alloc_at _ _ _ j (by simp)).trans ?_;rw[<-hj,<-List.getElem?_toArray]
          have k2:Keeps wA W2:=kw.out.trans (zA bW);have hin:=zh (one_in hbx7 (j4.keep k2) l5 (j5.keep k2) l6 (j6.keep k2));replace hbx9:=zh hbx9;replace hf9:=zh hf9;replace hp1:=zh hp1;have hlW:wr.heap.size<W2.heap.size:=(by omega)
          clear hbx7 k2 kA j4 j5 j6
          go_upto_region 15 with(first |(go_at_call 23;rw[<-hW2];refine(copies_any (.cons op x y n ls body els .nil) _ _ W2 (by simp[Il.len]) hp1.out hin.out).mono ?_;rintro e u1 ⟨ao,co,rfl,hR,hbu⟩;rw[show Il.len (.cons op x y n ls body els .nil)=1 from rfl];obtain⟨b2,o2,rfl,hb2,hs⟩:∃b2 o2,ao=some ⟨b2,o2,none⟩/\W2.heap.size<=b2/\IlR (λb=>W2.heap.size<=b) u1 b2 o2 (.cons op x y n ls body els .nil):=(hR.resolve_left (λe=>by cases e));obtain⟨⟨s0,s1,s2,s3⟩,⟨a4',c4',s4,r4⟩,⟨a5',c5',s5,m5,r5⟩,⟨a6',c6',s6,m6,r6⟩,_⟩:=hs;have v2:=zA hbu _ _ (hbx9.out 2 _ rfl);have n2:=(hbu.frozen (p:=⟨wr.heap.size,2,none⟩) hlW).trans (hf9.out 2);have v3:=zA hbu _ _ (hbx9.out 3 _ rfl);have n3:=(hbu.frozen (p:=⟨wr.heap.size,3,none⟩) hlW).trans (hf9.out 3);have v4:=zA hbu _ _ (hbx9.out 4 _ rfl);have n4:=(hbu.frozen (p:=⟨wr.heap.size,4,none⟩) hlW).trans (hf9.out 4);have v5:=zA hbu _ _ (hbx9.out 5 _ rfl);have n5:=(hbu.frozen (p:=⟨wr.heap.size,5,none⟩) hlW).trans (hf9.out 5);have v6:=zA hbu _ _ (hbx9.out 6 _ rfl);have n6:=(hbu.frozen (p:=⟨wr.heap.size,6,none⟩) hlW).trans (hf9.out 6);have v7:=zA hbu _ _ (hbx9.out 7 _ rfl);have n7:=(hbu.frozen (p:=⟨wr.heap.size,7,none⟩) hlW).trans (hf9.out 7);have v8:=zA hbu _ _ (hbx9.out 8 _ rfl);have n8:=(hbu.frozen (p:=⟨wr.heap.size,8,none⟩) hlW).trans (hf9.out 8)))
          have ex:∀j,j<7->∃x,u1.cell? ⟨wr.heap.size,2+j,none⟩=some x:=λj hj=>by
           rcases j with _ |_ |_ |_ |_ |_ |_ |j
           . exact⟨_,zA hbu _ _ (hbx9.out 2 _ rfl)⟩
           . exact⟨_,zA hbu _ _ (hbx9.out 3 _ rfl)⟩
           . exact⟨_,zA hbu _ _ (hbx9.out 4 _ rfl)⟩
           . exact⟨_,zA hbu _ _ (hbx9.out 5 _ rfl)⟩
           . exact⟨_,zA hbu _ _ (hbx9.out 6 _ rfl)⟩
           . exact⟨_,zA hbu _ _ (hbx9.out 7 _ rfl)⟩
           . exact⟨_,zA hbu _ _ (hbx9.out 8 _ rfl)⟩
           . omega
          have hs:=set_all wr.heap.size [.int .i64 op,.int .i64 x,.int .i64 y,.int .i64 n,.slice a4' ls.length c4',.slice a5' body.len c5',.slice a6' els.len c6'] 2 u1 (λj hj=>ex j (by simpa using hj));obtain⟨W3,hW3⟩:∃W3,W3=setAll wr.heap.size 2 [.int .i64 op,.int .i64 x,.int .i64 y,.int .i64 n,.slice a4' ls.length c4',.slice a5' body.len c5',.slice a6' els.len c6'] u1:=⟨_,rfl⟩
          change Code.wp _ _ _ _ (setAll wr.heap.size 2 [.int .i64 op,.int .i64 x,.int .i64 y,.int .i64 n,.slice a4' ls.length c4',.slice a5' body.len c5',.slice a6' els.len c6'] u1);rw[<-hW3]at hs ⊢;have bu:Below wr.heap.size wr u1:=bW.trans (hbu.mono (by omega));have b3:Below wr.heap.size wr W3:=hs.below _ _ (Nat.le_refl _) bu;have h0:=hs.lo 0 _ (by decide) (zA hbu _ _ (hbx9.out 0 _ rfl));have h1:=hs.lo 1 _ (by decide) (zA hbu _ _ (hbx9.out 1 _ rfl));have h2:W3.cell? ⟨wr.heap.size,2,none⟩=_:=hs.cells 0 _ rfl;have h3:W3.cell? ⟨wr.heap.size,3,none⟩=_:=hs.cells 1 _ rfl;have h4:W3.cell? ⟨wr.heap.size,4,none⟩=_:=hs.cells 2 _ rfl;have h5:W3.cell? ⟨wr.heap.size,5,none⟩=_:=hs.cells 3 _ rfl;have h6:W3.cell? ⟨wr.heap.size,6,none⟩=_:=hs.cells 4 _ rfl;have h7:W3.cell? ⟨wr.heap.size,7,none⟩=_:=hs.cells 5 _ rfl;have h8:W3.cell? ⟨wr.heap.size,8,none⟩=_:=hs.cells 6 _ rfl;obtain⟨t,htt⟩:∃t:gloCT,t=⟨ty,mu,op,x,y,n,ls,body,els,a4',c4',a5',c5',a6',c6'⟩:=⟨_,rfl⟩
          have okt:gloC.ok (λb=>wr.heap.size+1<=b) W3 t:=by
           rw[htt];have hE:EOk (λb=>W2.heap.size<=b) u1 ⟨op,x,y,n,ls,body,els,a4',c4',a5',c5',a6',c6'⟩:=⟨r4,m5,r5,m6,r6⟩
           exact hE.keep ⟨λb hb _=>hs.block b (by have:W2.heap.size<=b:=hb;omega),λb hb _=>by have:W2.heap.size<=b:=hb;omega⟩
          have hev:gloC.enc t=[.int .i64 ty,.bool mu,.int .i64 op,.int .i64 x,.int .i64 y,.int .i64 n,.slice a4' ls.length c4',.slice a5' body.len c5',.slice a6' els.len c6']:=(by rw[htt];rfl)
          replace hmap:=zh (hmap t (by rw[htt];exact⟨rfl,rfl,rfl⟩));have nb3:=nb.out.below (b3.mono (Nat.le_refl _));have own3:=own.out.below b3;have hMw:=nb.out.hi;have xm:=nb3.cells 5 _ rfl;have hgm:=zh (hb.out.trans (b3.mono (by have:=hb.out.size;have:=hszA.out;omega)));have hlt3:wr.heap.size<W3.heap.size:=(by have:=hs.size;have:=hbu.size;omega)
          replace hev:=zh hev;replace okt:=zh okt;replace own3:=zh own3;replace nb3:=zh nb3;have hoL:Hid ((∀k,v.ownBlock=some k->k<wr.heap.size)/\∀k,S3.ex k->k<wr.heap.size):=zh ⟨λk e=>(own.out.own.lt k e).2,own.out.exl⟩;clear htt hs ex hW3 hW2 bW sW hin hbx9 hf9 hb2 s0 s1 s2 s3 s4 s5 s6 r4 r5 r6 m5 m6 v2 v3 v4 v5 v6 v7 v8 n2 n3 n4 n5 n6 n7 n8 hlW z0 z1 z2 z3 z4 z5 z6 z7 z8 bu kw qa qb qc0 qc1 qc2 qc3 qc4 qc5 qc6 hp1 nb own hd ht hmem cc5 hb b3 hbu;obtain⟨ie,hie,hze,hse,hbe⟩:=info_parts info62;have hom:=own3.out.own
          go_wp2_with (first |(
           at_builtin
           refine wpList_append_lies _ rfl _ _ _ rfl (M+1) 51 ie _ 9 120 Tryz.underlying26 hie hze hse hbe rfl (by omega) v i (ts.flatMap gloC.enc) (by rfl) (hom.alloc _)
            ⟨W3.heap.size,0,none⟩ 1 1 [.int .i64 ty,.bool mu,.int .i64 op,.int .i64 x,.int .i64 y,.int .i64 n,.slice a4' ls.length c4',.slice a5' body.len c5',.slice a6' els.len c6'] (by rfl) (by rfl)
            (World.news_of_block (cs:= #[.int .i64 ty,.bool mu,.int .i64 op,.int .i64 x,.int .i64 y,.int .i64 n,.slice a4' ls.length c4',.slice a5' body.len c5',.slice a6' els.len c6']) (t:=51) (fr:=(0,0)) (heap_alloc_new _ _)) (by rw[<-hev.out];exact gloC_one t)
            (by omega) (by unfold maxLen;omega) (by omega) (by simp;omega) (W3.heap.size+1) (by simp) ?_
           intro g cap w4 ho hgrow hat hlt4;have hal:Below W3.heap.size W3 (W3.alloc (.cells #[.int .i64 ty,.bool mu,.int .i64 op,.int .i64 x,.int .i64 y,.int .i64 n,.slice a4' ls.length c4',.slice a5' body.len c5',.slice a6' els.len c6'] 51)):=(Below.refl _ _).alloc (Nat.le_refl _) _;have nb4:=(nb3.out.below hal).grown hgrow (λq e=>by have:=(hom.lt q e).1;omega);have xm4:=nb4.cells 5 _ rfl;have fm4:=nb4.frozen 5))
          rw[<-hev.out]at ho;have own4:=(own3.out.below hal).grow (L:=wr.heap.size+1) hBM (by omega) ⟨λk e=>by have:=hoL.out.1 k e;omega,λk e=>by have:=hoL.out.2 k e;omega⟩ (gloC.keep _ _ _ _ _ (KeepsR.below hal) okt.out) ho hgrow (hat.imp id (λh=>by rw[h];simp));have hb4:Below (w.heap.size+2) wA w4:=(hgm.out.trans (hal.mono (by omega))).grown hgrow (by have:=hal.size;omega) (λq e=>by have:=(hom.lt q e).1;omega);have hb5:=zh (hb4.setCell (p:=⟨M,5,none⟩) hBM (.slice (some ⟨g,0,none⟩) (i+1) cap));have nb5:=zh (nb4.set (j:=5) (by simp) (.slice (some ⟨g,0,none⟩) (i+1) cap));have own5:=zh (own4.set (j:=5) (u:=.slice (some ⟨g,0,none⟩) (i+1) cap));clear hb4 nb4 own4 hal ho hgrow hat hlt4 hom own3 nb3 okt hev hoL hgm xm hlt3 h0 h1 h2 h3 h4 h5 h6 h7 h8;go_wp2;exact⟨⟨i+1,_,ts++[t],by simp,by omega,hb5,nb5,own5,hmap⟩,by simp[intOf];omega⟩
        . have hiN:i=m.globals.length:=(by omega)
          subst hiN;obtain⟨d5,r5,rfl,hst⟩:=own.out.shut hBM;obtain⟨ts3,hts3⟩:∃s,s=ts:=⟨_,rfl⟩
          rw[<-hts3]at hst hd;replace hst:=zh hst;have hd3:=zh (hd.out.trans List.take_length);clear own hd kA hts3 hi ts;obtain⟨S4,hS4⟩:∃s,s=stOwn S3 gloC 51 9 (w.heap.size+2) (.slice d5 m.globals.length r5) m.globals.length ts3:=⟨_,rfl⟩
          rw[<-hS4]at hst;replace hS4:=zh hS4;go_wp2_with fail;clear xc5 hlt;go_loopw [8] (λvi wr=>∃(i:Nat) (v:Value) (ts:List elmCT),vi=.int .i64 i/\i<=m.elems.length/\Hid (Below (w.heap.size+2) wA wr)/\Hid (NBox M wr #[.slice d0 m.types.length r0,.slice b1 m.imports.length q1,.slice d2 m.funcs.length r2,.slice b3 m.tables.length q3,.slice b4 m.mems.length q4,.slice d5 m.globals.length r5,.slice b6 m.exports.length q6,.slice b7 m.start.length q7,v,.slice none 0 0])/\Hid (OwnS elmC S4 67 8 (w.heap.size+2) M wr v i ts)/\Hid (ts.map (λt:elmCT=>(oneE t.t,t.l))=m.elems.take i)) (λvi _=>m.elems.length-(intOf vi).toNat)
          case atStart=>exact⟨0,.slice none 0 0,[],rfl,Nat.zero_le _,hb,nb,zh (OwnS.start hst.out),zh rfl⟩
          case round=>
           clear hb nb hst;obtain⟨i,v,ts,rfl,hi,hb,nb,own,hd⟩:=hrel;have kA:Keeps wA wr:=zA (by rw[hszA.out];exact hb.out);have xc8:wr.cell? ⟨w.heap.size,8,none⟩=some (.slice a8 m.elems.length k8):=kA _ _ (hbx.out 8 _ rfl)
           by_cases hlt:i<m.elems.length
           . obtain⟨tt,ht⟩:∃t,m.elems[i]? =some t:=⟨_,List.getElem?_eq_getElem hlt⟩
             have hmem:=List.mem_of_getElem? ht;have hlen:=hsm.out.l8;obtain⟨b,o,rfl,hrow⟩:=HM.out.elems.row ht;obtain⟨⟨op,x,y,n,ls,body,els⟩,l⟩:=tt;obtain⟨⟨⟨qc0,qc1,qc2,qc3⟩,⟨x4,y4,qc4,j4⟩,⟨x5,y5,qc5,l5,j5⟩,⟨x6,y6,qc6,l6,j6⟩,_⟩,⟨la,lc,cl,il⟩⟩:=hrow;have j5:=in0 j5;have j6:=in0 j6;obtain⟨hp1,hp2⟩:=hsm.out.elems _ hmem;simp only at qc0 qc1 qc2 qc3 qc4 j4 qc5 l5 j5 qc6 l6 j6 cl il hp1 hp2
             have hmap:∀t:elmCT,vU [t.t] .nil=.cons op x y n ls body els .nil/\t.l=l->(ts++[t]).map (λt:elmCT=>(oneE t.t,t.l))=m.elems.take (i+1):=λt hp=>by
              rw[List.map_append,hd.out,List.take_add_one,ht];simp only[List.map_cons,List.map_nil];rw[one_of hp.1,hp.2];rfl
             have cc8:=hbx.out 8 _ rfl
             go_upto_region 19 with fail
             refine wp_as_then ?_;intro K hK
             go_cut [] from 119 to 149 (λwx=>∃g cap t,Hid (vU [t.t] .nil=.cons op x y n ls body els .nil/\t.l=l)/\Hid (Below (w.heap.size+2) wA wx)/\Hid (NBox M wx #[.slice d0 m.types.length r0,.slice b1 m.imports.length q1,.slice d2 m.funcs.length r2,.slice b3 m.tables.length q3,.slice b4 m.mems.length q4,.slice d5 m.globals.length r5,.slice b6 m.exports.length q6,.slice b7 m.start.length q7,.slice (some ⟨g,0,none⟩) (i+1) cap,.slice none 0 0])/\Hid (OwnS elmC S4 67 8 (w.heap.size+2) M wx (.slice (some ⟨g,0,none⟩) (i+1) cap) (i+1) (ts++[t])))
             case first=>refine wp_fn _ 180 rfl (reg19 S4 hmix.out hszA.out hBM hb.out nb.out rfl own.out rfl rfl rfl cc8 hlt hlen qc0 qc1 qc2 qc3 qc4 qc5 qc6 j4 l5 j5 l6 j6 hp2 cl il hp1 ?_);intro f w' g cap t hP h1 h2 h3;go_wp2_with fail;go_meet;exact⟨g,cap,t,zh hP,zh h1,zh h2,zh h3⟩
             case rest=>obtain⟨g,cap,t,hp,hb2,nb2,own2⟩:=hcut;replace hmap:=zh (hmap t hp.out);clear hb nb own hd hp ht hmem kA cc8;refine(hK _ _).2 ?_;clear hK;go_wp2;exact⟨⟨i+1,_,_,by simp,by omega,hb2,nb2,own2,hmap⟩,by simp[intOf];omega⟩
           . have hiN:i=m.elems.length:=(by omega)
             subst hiN;obtain⟨d8,r8,rfl,hst⟩:=own.out.shut hBM;obtain⟨ts4,hts4⟩:∃s,s=ts:=⟨_,rfl⟩
             rw[<-hts4]at hst hd;replace hst:=zh hst;have hd4:=zh (hd.out.trans List.take_length);clear own hd kA hts4 hi ts;obtain⟨S5,hS5⟩:∃s,s=stOwn S4 elmC 67 8 (w.heap.size+2) (.slice d8 m.elems.length r8) m.elems.length ts4:=⟨_,rfl⟩
             rw[<-hS5]at hst;replace hS5:=zh hS5;go_wp2_with fail;clear xc8 hlt;go_loopw [9] (λvi wr=>∃(i:Nat) (v:Value) (ts:List datCT),vi=.int .i64 i/\i<=m.datas.length/\Hid (Below (w.heap.size+2) wA wr)/\Hid (NBox M wr #[.slice d0 m.types.length r0,.slice b1 m.imports.length q1,.slice d2 m.funcs.length r2,.slice b3 m.tables.length q3,.slice b4 m.mems.length q4,.slice d5 m.globals.length r5,.slice b6 m.exports.length q6,.slice b7 m.start.length q7,.slice d8 m.elems.length r8,v])/\Hid (OwnS datC S5 69 8 (w.heap.size+2) M wr v i ts)/\Hid (ts.map (λt:datCT=>(oneE t.t,t.s))=m.datas.take i)) (λvi _=>m.datas.length-(intOf vi).toNat)
             case atStart=>exact⟨0,.slice none 0 0,[],rfl,Nat.zero_le _,hb,nb,zh (OwnS.start hst.out),zh rfl⟩
             case round=>
              clear hb nb hst;obtain⟨i,v,ts,rfl,hi,hb,nb,own,hd⟩:=hrel;have kA:Keeps wA wr:=zA (by rw[hszA.out];exact hb.out);have xc9:wr.cell? ⟨w.heap.size,9,none⟩=some (.slice a9 m.datas.length k9):=kA _ _ (hbx.out 9 _ rfl)
              by_cases hlt:i<m.datas.length
              . obtain⟨tt,ht⟩:∃t,m.datas[i]? =some t:=⟨_,List.getElem?_eq_getElem hlt⟩
                have hmem:=List.mem_of_getElem? ht;have hlen:=hsm.out.l9;obtain⟨b,o,rfl,hrow⟩:=HM.out.datas.row ht;obtain⟨⟨op,x,y,n,ls,body,els⟩,s⟩:=tt;obtain⟨⟨⟨qc0,qc1,qc2,qc3⟩,⟨x4,y4,qc4,j4⟩,⟨x5,y5,qc5,l5,j5⟩,⟨x6,y6,qc6,l6,j6⟩,_⟩,⟨cl,hsl⟩⟩:=hrow;have j5:=in0 j5;have j6:=in0 j6;obtain⟨hp1,hp2⟩:=hsm.out.datas _ hmem;simp only at qc0 qc1 qc2 qc3 qc4 j4 qc5 l5 j5 qc6 l6 j6 cl hp1 hp2
                have hmap:∀t:datCT,vU [t.t] .nil=.cons op x y n ls body els .nil/\t.s=s->(ts++[t]).map (λt:datCT=>(oneE t.t,t.s))=m.datas.take (i+1):=λt hp=>by
                 rw[List.map_append,hd.out,List.take_add_one,ht];simp only[List.map_cons,List.map_nil];rw[one_of hp.1,hp.2];rfl
                have cc9:=hbx.out 9 _ rfl
                go_upto_region 23 with fail
                refine wp_as_then ?_;intro K hK
                go_cut [] from 150 to 178 (λwx=>∃g cap t,Hid (vU [t.t] .nil=.cons op x y n ls body els .nil/\t.s=s)/\Hid (Below (w.heap.size+2) wA wx)/\Hid (NBox M wx #[.slice d0 m.types.length r0,.slice b1 m.imports.length q1,.slice d2 m.funcs.length r2,.slice b3 m.tables.length q3,.slice b4 m.mems.length q4,.slice d5 m.globals.length r5,.slice b6 m.exports.length q6,.slice b7 m.start.length q7,.slice d8 m.elems.length r8,.slice (some ⟨g,0,none⟩) (i+1) cap])/\Hid (OwnS datC S5 69 8 (w.heap.size+2) M wx (.slice (some ⟨g,0,none⟩) (i+1) cap) (i+1) (ts++[t])))
                case first=>refine wp_fn _ 180 rfl (reg23 S5 hmix.out hszA.out hBM hb.out nb.out rfl own.out rfl rfl rfl cc9 hlt hlen qc0 qc1 qc2 qc3 qc4 qc5 qc6 j4 l5 j5 l6 j6 hp2 cl ?_);intro f w' g cap t hP h1 h2 h3;go_wp2_with fail;go_meet;exact⟨g,cap,t,zh hP,zh h1,zh h2,zh h3⟩
                case rest=>obtain⟨g,cap,t,hp,hb2,nb2,own2⟩:=hcut;replace hmap:=zh (hmap t hp.out);clear hb nb own hd hp ht hmem kA cc9;refine(hK _ _).2 ?_;clear hK;go_wp2;exact⟨⟨i+1,_,_,by simp,by omega,hb2,nb2,own2,hmap⟩,by simp[intOf];omega⟩
              . have hiN:i=m.datas.length:=(by omega)
                subst hiN;obtain⟨d9,r9,rfl,hst⟩:=own.out.shut hBM;obtain⟨ts5,hts5⟩:∃s,s=ts:=⟨_,rfl⟩
                rw[<-hts5]at hst hd;replace hst:=zh hst;have hd5:=zh (hd.out.trans List.take_length);clear own hd kA hts5 hi ts;obtain⟨S6,hS6⟩:∃s,s=stOwn S5 datC 69 8 (w.heap.size+2) (.slice d9 m.datas.length r9) m.datas.length ts5:=⟨_,rfl⟩
                rw[<-hS6]at hst;replace hS6:=zh hS6;have xm0:wr.cell? ⟨M,0,none⟩=some (.slice d0 m.types.length r0):=nb.out.cells 0 _ rfl;have xm1:wr.cell? ⟨M,1,none⟩=some (.slice b1 m.imports.length q1):=nb.out.cells 1 _ rfl;have xm2:wr.cell? ⟨M,2,none⟩=some (.slice d2 m.funcs.length r2):=nb.out.cells 2 _ rfl;have xm3:wr.cell? ⟨M,3,none⟩=some (.slice b3 m.tables.length q3):=nb.out.cells 3 _ rfl;have xm4:wr.cell? ⟨M,4,none⟩=some (.slice b4 m.mems.length q4):=nb.out.cells 4 _ rfl;have xm5:wr.cell? ⟨M,5,none⟩=some (.slice d5 m.globals.length r5):=nb.out.cells 5 _ rfl;have xm6:wr.cell? ⟨M,6,none⟩=some (.slice b6 m.exports.length q6):=nb.out.cells 6 _ rfl;have xm7:wr.cell? ⟨M,7,none⟩=some (.slice b7 m.start.length q7):=nb.out.cells 7 _ rfl;have xm8:wr.cell? ⟨M,8,none⟩=some (.slice d8 m.elems.length r8):=nb.out.cells 8 _ rfl;have xm9:wr.cell? ⟨M,9,none⟩=some (.slice d9 m.datas.length r9):=nb.out.cells 9 _ rfl;have ky:∀j,wr.cell? ⟨w.heap.size+1,j,none⟩=wA.cell? ⟨w.heap.size+1,j,none⟩:=λj=>hb.out.cell (p:=⟨w.heap.size+1,j,none⟩) (by show w.heap.size+1<w.heap.size+2;omega);have kf:∀j,wr.frozen? ⟨w.heap.size+1,j,none⟩=wA.frozen? ⟨w.heap.size+1,j,none⟩:=λj=>hb.out.frozen (p:=⟨w.heap.size+1,j,none⟩) (by show w.heap.size+1<w.heap.size+2;omega);have xr0:wr.cell? ⟨w.heap.size+1,0,none⟩=some (.slice none 0 0):=(ky 0).trans (hbr.out 0 _ rfl)
                have xf0:wr.frozen? ⟨w.heap.size+1,0,none⟩=false:=(kf 0).trans (hfr.out 0);have xr1:wr.cell? ⟨w.heap.size+1,1,none⟩=some (.slice none 0 0):=(ky 1).trans (hbr.out 1 _ rfl);have xf1:wr.frozen? ⟨w.heap.size+1,1,none⟩=false:=(kf 1).trans (hfr.out 1);have xr2:wr.cell? ⟨w.heap.size+1,2,none⟩=some (.slice none 0 0):=(ky 2).trans (hbr.out 2 _ rfl);have xf2:wr.frozen? ⟨w.heap.size+1,2,none⟩=false:=(kf 2).trans (hfr.out 2);have xr3:wr.cell? ⟨w.heap.size+1,3,none⟩=some (.slice none 0 0):=(ky 3).trans (hbr.out 3 _ rfl);have xf3:wr.frozen? ⟨w.heap.size+1,3,none⟩=false:=(kf 3).trans (hfr.out 3);have xr4:wr.cell? ⟨w.heap.size+1,4,none⟩=some (.slice none 0 0):=(ky 4).trans (hbr.out 4 _ rfl);have xf4:wr.frozen? ⟨w.heap.size+1,4,none⟩=false:=(kf 4).trans (hfr.out 4);have xr5:wr.cell? ⟨w.heap.size+1,5,none⟩=some (.slice none 0 0):=(ky 5).trans (hbr.out 5 _ rfl);have xf5:wr.frozen? ⟨w.heap.size+1,5,none⟩=false:=(kf 5).trans (hfr.out 5);have xr6:wr.cell? ⟨w.heap.size+1,6,none⟩=some (.slice none 0 0):=(ky 6).trans (hbr.out 6 _ rfl);have xf6:wr.frozen? ⟨w.heap.size+1,6,none⟩=false:=(kf 6).trans (hfr.out 6);have xr7:wr.cell? ⟨w.heap.size+1,7,none⟩=some (.slice none 0 0):=(ky 7).trans (hbr.out 7 _ rfl);have xf7:wr.frozen? ⟨w.heap.size+1,7,none⟩=false:=(kf 7).trans (hfr.out 7);have xr8:wr.cell? ⟨w.heap.size+1,8,none⟩=some (.slice none 0 0):=(ky 8).trans (hbr.out 8 _ rfl)
                have xf8:wr.frozen? ⟨w.heap.size+1,8,none⟩=false:=(kf 8).trans (hfr.out 8);have xr9:wr.cell? ⟨w.heap.size+1,9,none⟩=some (.slice none 0 0):=(ky 9).trans (hbr.out 9 _ rfl);have xf9:wr.frozen? ⟨w.heap.size+1,9,none⟩=false:=(kf 9).trans (hfr.out 9);clear ky kf;go_wp2_with fail;clear xc9 hlt
                have hs:=set_all (w.heap.size+1) [.slice d0 m.types.length r0,.slice b1 m.imports.length q1,.slice d2 m.funcs.length r2,.slice b3 m.tables.length q3,.slice b4 m.mems.length q4,.slice d5 m.globals.length r5,.slice b6 m.exports.length q6,.slice b7 m.start.length q7,.slice d8 m.elems.length r8,.slice d9 m.datas.length r9] 0 wr (λj hj=>⟨_,(hb.out.cell (p:=⟨w.heap.size+1,0+j,none⟩) (by show w.heap.size+1<w.heap.size+2;omega)).trans (hbr.out (0+j) (.slice none 0 0) (by
                 have:j<10:=(by simpa using hj)
                 rcases j with _ |_ |_ |_ |_ |_ |_ |_ |_ |_ |j
                 all_goals first |rfl |omega))⟩)
                have hr2:(setAll (w.heap.size+1) 0 [.slice d0 m.types.length r0,.slice b1 m.imports.length q1,.slice d2 m.funcs.length r2,.slice b3 m.tables.length q3,.slice b4 m.mems.length q4,.slice d5 m.globals.length r5,.slice b6 m.exports.length q6,.slice b7 m.start.length q7,.slice d8 m.elems.length r8,.slice d9 m.datas.length r9] wr).heap[w.heap.size+1]? =some (.cells #[.slice d0 m.types.length r0,.slice b1 m.imports.length q1,.slice d2 m.funcs.length r2,.slice b3 m.tables.length q3,.slice b4 m.mems.length q4,.slice d5 m.globals.length r5,.slice b6 m.exports.length q6,.slice b7 m.start.length q7,.slice d8 m.elems.length r8,.slice d9 m.datas.length r9] 32 (0,0)):=by have:=setAll_heap (w.heap.size+1) 32 [.slice d0 m.types.length r0,.slice b1 m.imports.length q1,.slice d2 m.funcs.length r2,.slice b3 m.tables.length q3,.slice b4 m.mems.length q4,.slice d5 m.globals.length r5,.slice b6 m.exports.length q6,.slice b7 m.start.length q7,.slice d8 m.elems.length r8,.slice d9 m.datas.length r9] 0 wr _ ((hb.out.block (w.heap.size+1) (by omega)).trans hrA.out);rw[setA10]at this;exact this
                (try simp only[Exit.inBlock,Exit.then]);refine bodyPost_ret (results_cell_row (P:=Tryz.prog) rfl _ _ (w.heap.size+1) 32 #[.slice d0 m.types.length r0,.slice b1 m.imports.length q1,.slice d2 m.funcs.length r2,.slice b3 m.tables.length q3,.slice b4 m.mems.length q4,.slice d5 m.globals.length r5,.slice b6 m.exports.length q6,.slice b7 m.start.length q7,.slice d8 m.elems.length r8,.slice d9 m.datas.length r9] (0,0) _ rfl hr2 Tryz.underlying32 rfl info36s) rfl ?_;refine⟨d0,r0,b1,q1,d2,r2,b3,q3,b4,q4,d5,r5,b6,q6,b7,q7,d8,r8,d9,r9,rfl,?_,hs.below _ _ (by omega) (hbA.out.trans (hb.out.mono (by omega)))⟩;have hk:KeepsR (StR (w.heap.size+2) M (.slice none 0 0)) (λb=>w.heap.size<=b) wr _:=⟨λb hp _=>hs.block b (by have:=hp.1;omega),λb hp _=>by have:=hp.1;omega⟩
                have hst:=S6.keep _ _ _ _ hk hst.out.1;rw[hS6.out,hS5.out,hS4.out,hS3.out,hS2.out,hS1.out]at hst;obtain⟨x1,x2,x3⟩:=made_copy (k1:=q1) (k3:=q3) (k4:=q4) (k6:=q6) (k7:=q7) hsm.out HM.out hst (by omega) hd1.out hd2.out hd3.out hd4.out hd5.out;exact⟨x1,⟨_,x2⟩,x3⟩
end Go.Proofs.YtacohbllbjgdgaaGreatDoor
