/- The contract of formed. -/
import Derived.Test.YtacohbllbjgdgaaGreatDoorMe
import Derived.Test.YtacohbllbjgdgaaGreatDoorFa
import Derived.RegionTactic
import Derived.RegionCalls
import Derived.Deep.Cut
import Derived.Deep.CutRange
import Derived.Outline
set_option linter.all false
set_option maxRecDepth 100000
set_option maxHeartbeats 8000000
namespace Go.Proofs.YtacohbllbjgdgaaGreatDoor
open Go.RowKit
def res1 (x:Int):Bool:=x==0||(x==127||x==126)
theorem result_any(x:Int)(p:Nat)(w:World)(h:w.cell? ⟨p,1,none⟩=some (.int .i64 x)):Calls Tryz.prog 92 #[.pointer (some ⟨p,0,none⟩)] w λe w'=>e=endE (res1 x) 30/\w=w':=by
 by_cases h0:x=0
 . subst h0;go_enter Tryz.func92,Tryz.ntmps92;go_wp2_with fail;refine(qF 30 _).mono ?_;rintro e w' ⟨rfl,rfl⟩;go_wp2;go_end0;exact⟨rfl,rfl⟩
 . have q0:(x==0)=false:=(by simp[h0])
   by_cases h1:x=127
   . subst h1;go_enter Tryz.func92,Tryz.ntmps92;go_wp2_with fail;refine(qF 30 _).mono ?_;rintro e w' ⟨rfl,rfl⟩;go_wp2;go_end0;exact⟨rfl,rfl⟩
   . have q1:(x==127)=false:=(by simp[h1])
     by_cases h2:x=126
     . subst h2;go_enter Tryz.func92,Tryz.ntmps92;go_wp2_with fail;refine(qF 30 _).mono ?_;rintro e w' ⟨rfl,rfl⟩;go_wp2;go_end0;exact⟨rfl,rfl⟩
     . have q2:(x==126)=false:=(by simp[h2])
       have hr:res1 x=false:=(by simp[res1,h0,h1,h2])
       rw[hr];go_enter Tryz.func92,Tryz.ntmps92;go_wp2_with fail;refine(jV 30 _).mono ?_;rintro e w' ⟨rfl,rfl⟩;go_wp2;exact⟨rfl,rfl,rfl⟩
theorem result_yes(x:Int)(p:Nat)(w:World)(hr:res1 x=true)(h:w.cell? ⟨p,1,none⟩=some (.int .i64 x)):Calls Tryz.prog 92 #[.pointer (some ⟨p,0,none⟩)] w λe w'=>e=.returned (.tuple #[])/\w=w':=by
 have:=result_any x p w h;rw[hr,zV]at this;exact this
theorem result_no(x:Int)(p:Nat)(w:World)(hr:res1 x=false)(h:w.cell? ⟨p,1,none⟩=some (.int .i64 x)):Calls Tryz.prog 92 #[.pointer (some ⟨p,0,none⟩)] w λe w'=>e=.panicked (fault 30)/\w=w':=by
 have:=result_any x p w h;rw[hr,qC]at this;exact this
def wrapI32 (n:Int):Int:=wrap64 (wrap32 n)
def zC (op x y n:Int) (ls:List Int) (bl el:Nat):Bool:=
 if zG op=1 then(x==0&&(y==0&&(n==0&&((ls.length:Int)==0&&((bl:Int)==0&&(el:Int)==0)))))
 else if zG op=2 then res1 x&&(y==0&&(n==0&&((ls.length:Int)==0&&(el:Int)==0)))
 else if zG op=3 then res1 x&&(y==0&&(n==0&&(ls.length:Int)==0))
 else if zG op=4\/zG op=6\/zG op=7 then zM x&&(y==0&&(n==0&&((ls.length:Int)==0&&((bl:Int)==0&&(el:Int)==0))))
 else if zG op=5 then zM x&&(ls.all zM&&(y==0&&(n==0&&((bl:Int)==0&&(el:Int)==0))))
 else if zG op=8 then zM x&&(zM y&&(n==0&&((ls.length:Int)==0&&((bl:Int)==0&&(el:Int)==0))))
 else if zG op=9 then(op==66||n==wrapI32 n)&&(x==0&&(y==0&&((ls.length:Int)==0&&((bl:Int)==0&&(el:Int)==0))))
 else false
theorem form1_no{op x y n:Int}{ls:List Int}{bl el:Nat}(h:zG op≠1/\zG op≠2/\zG op≠3/\zG op≠4/\zG op≠6/\zG op≠7/\zG op≠5/\zG op≠8/\zG op≠9):zC op x y n ls bl el=false:=by obtain⟨h1,h2,h3,h4,h6,h7,h5,h8,h9⟩:=h;unfold zC;rw[if_neg h1,if_neg h2,if_neg h3,if_neg (by omega),if_neg h5,if_neg h8,if_neg h9]
def zZ:Il->Bool
 |.nil=>true
 |.cons op x y n ls body els rest=>zC op x y n ls body.len els.len&&(zZ body&&(zZ els&&zZ rest))
structure MidAt (wx:World) (X:Nat) (op x y n:Int) (v4 v5 v6:Value) (xA yA nA:Int) (a4:Option Addr) (l4 c4:Nat) (a5:Option Addr) (l5 c5:Nat) (a6:Option Addr) (l6 c6:Nat):Prop where
 g1:wx.cell? ⟨X,1,none⟩=some (.int .i64 x)
 g2:wx.cell? ⟨X,2,none⟩=some (.int .i64 y)
 g3:wx.cell? ⟨X,3,none⟩=some (.int .i64 n)
 g4:wx.cell? ⟨X,4,none⟩=some v4
 g5:wx.cell? ⟨X,5,none⟩=some v5
 g6:wx.cell? ⟨X,6,none⟩=some v6
 e1:wx.cell? ⟨X+1,1,none⟩=some (.int .i64 xA)
 e2:wx.cell? ⟨X+1,2,none⟩=some (.int .i64 yA)
 e3:wx.cell? ⟨X+1,3,none⟩=some (.int .i64 nA)
 e4:wx.cell? ⟨X+1,4,none⟩=some (.slice a4 l4 c4)
 e5:wx.cell? ⟨X+1,5,none⟩=some (.slice a5 l5 c5)
 e6:wx.cell? ⟨X+1,6,none⟩=some (.slice a6 l6 c6)
def Mid (wr wx:World) (op x y n:Int) (ls:List Int) (bl el:Nat) (v4 v5 v6:Value):Prop:=
 ∃xA yA nA a4 l4 c4 a5 l5 c5 a6 l6 c6,MidAt wx wr.heap.size op x y n v4 v5 v6 xA yA nA a4 l4 c4 a5 l5 c5 a6 l6 c6/\Below wr.heap.size wr wx/\
  zC op x y n ls bl el=((x==xA)&&((y==yA)&&((n==nA)&&(((ls.length:Int)==(l4:Nat))&&(((bl:Int)==(l5:Nat))&&((el:Int)==(l6:Nat)))))))
theorem zE{w:World}{p i q j:Nat}{v u:Value}(h:w.cell? ⟨q,j,none⟩=some u)(hn:p≠q\/i≠j):(w.setCell ⟨p,i,none⟩ v).cell? ⟨q,j,none⟩=some u:=by
 rw[World.cell?_setCell_other]
 . exact h
 . intro e;cases e;omega
theorem xK{w:World}{p i:Nat}{v u:Value}(h:w.cell? ⟨p,i,none⟩=some u):(w.setCell ⟨p,i,none⟩ v).cell? ⟨p,i,none⟩=some v:=World.cell?_setCell_same _ _ _ h
theorem MidAt.set1{wx:World}{X:Nat}{op x y n:Int}{v4 v5 v6:Value}{xA yA nA:Int}{a4:Option Addr}{l4 c4:Nat}{a5:Option Addr}{l5 c5:Nat}{a6:Option Addr}{l6 c6:Nat}(h:MidAt wx X op x y n v4 v5 v6 xA yA nA a4 l4 c4 a5 l5 c5 a6 l6 c6)(v:Int):MidAt (wx.setCell ⟨X+1,1,none⟩ (.int .i64 v)) X op x y n v4 v5 v6 v yA nA a4 l4 c4 a5 l5 c5 a6 l6 c6:=
 ⟨zE h.g1 (by omega),zE h.g2 (by omega),zE h.g3 (by omega),zE h.g4 (by omega),zE h.g5 (by omega),zE h.g6 (by omega),xK h.e1,zE h.e2 (by omega),zE h.e3 (by omega),zE h.e4 (by omega),zE h.e5 (by omega),zE h.e6 (by omega)⟩
theorem MidAt.set2{wx:World}{X:Nat}{op x y n:Int}{v4 v5 v6:Value}{xA yA nA:Int}{a4:Option Addr}{l4 c4:Nat}{a5:Option Addr}{l5 c5:Nat}{a6:Option Addr}{l6 c6:Nat}(h:MidAt wx X op x y n v4 v5 v6 xA yA nA a4 l4 c4 a5 l5 c5 a6 l6 c6)(v:Int):MidAt (wx.setCell ⟨X+1,2,none⟩ (.int .i64 v)) X op x y n v4 v5 v6 xA v nA a4 l4 c4 a5 l5 c5 a6 l6 c6:=
 ⟨zE h.g1 (by omega),zE h.g2 (by omega),zE h.g3 (by omega),zE h.g4 (by omega),zE h.g5 (by omega),zE h.g6 (by omega),zE h.e1 (by omega),xK h.e2,zE h.e3 (by omega),zE h.e4 (by omega),zE h.e5 (by omega),zE h.e6 (by omega)⟩
theorem MidAt.set3{wx:World}{X:Nat}{op x y n:Int}{v4 v5 v6:Value}{xA yA nA:Int}{a4:Option Addr}{l4 c4:Nat}{a5:Option Addr}{l5 c5:Nat}{a6:Option Addr}{l6 c6:Nat}(h:MidAt wx X op x y n v4 v5 v6 xA yA nA a4 l4 c4 a5 l5 c5 a6 l6 c6)(v:Int):MidAt (wx.setCell ⟨X+1,3,none⟩ (.int .i64 v)) X op x y n v4 v5 v6 xA yA v a4 l4 c4 a5 l5 c5 a6 l6 c6:=
 ⟨zE h.g1 (by omega),zE h.g2 (by omega),zE h.g3 (by omega),zE h.g4 (by omega),zE h.g5 (by omega),zE h.g6 (by omega),zE h.e1 (by omega),zE h.e2 (by omega),xK h.e3,zE h.e4 (by omega),zE h.e5 (by omega),zE h.e6 (by omega)⟩
theorem MidAt.set4{wx:World}{X:Nat}{op x y n:Int}{v4 v5 v6:Value}{xA yA nA:Int}{a4:Option Addr}{l4 c4:Nat}{a5:Option Addr}{l5 c5:Nat}{a6:Option Addr}{l6 c6:Nat}(h:MidAt wx X op x y n v4 v5 v6 xA yA nA a4 l4 c4 a5 l5 c5 a6 l6 c6)(a:Option Addr)(m d:Nat):MidAt (wx.setCell ⟨X+1,4,none⟩ (.slice a m d)) X op x y n v4 v5 v6 xA yA nA a m d a5 l5 c5 a6 l6 c6:=
 ⟨zE h.g1 (by omega),zE h.g2 (by omega),zE h.g3 (by omega),zE h.g4 (by omega),zE h.g5 (by omega),zE h.g6 (by omega),zE h.e1 (by omega),zE h.e2 (by omega),zE h.e3 (by omega),xK h.e4,zE h.e5 (by omega),zE h.e6 (by omega)⟩
theorem MidAt.set5{wx:World}{X:Nat}{op x y n:Int}{v4 v5 v6:Value}{xA yA nA:Int}{a4:Option Addr}{l4 c4:Nat}{a5:Option Addr}{l5 c5:Nat}{a6:Option Addr}{l6 c6:Nat}(h:MidAt wx X op x y n v4 v5 v6 xA yA nA a4 l4 c4 a5 l5 c5 a6 l6 c6)(a:Option Addr)(m d:Nat):MidAt (wx.setCell ⟨X+1,5,none⟩ (.slice a m d)) X op x y n v4 v5 v6 xA yA nA a4 l4 c4 a m d a6 l6 c6:=
 ⟨zE h.g1 (by omega),zE h.g2 (by omega),zE h.g3 (by omega),zE h.g4 (by omega),zE h.g5 (by omega),zE h.g6 (by omega),zE h.e1 (by omega),zE h.e2 (by omega),zE h.e3 (by omega),zE h.e4 (by omega),xK h.e5,zE h.e6 (by omega)⟩
theorem MidAt.set6{wx:World}{X:Nat}{op x y n:Int}{v4 v5 v6:Value}{xA yA nA:Int}{a4:Option Addr}{l4 c4:Nat}{a5:Option Addr}{l5 c5:Nat}{a6:Option Addr}{l6 c6:Nat}(h:MidAt wx X op x y n v4 v5 v6 xA yA nA a4 l4 c4 a5 l5 c5 a6 l6 c6)(a:Option Addr)(m d:Nat):MidAt (wx.setCell ⟨X+1,6,none⟩ (.slice a m d)) X op x y n v4 v5 v6 xA yA nA a4 l4 c4 a5 l5 c5 a m d:=
 ⟨zE h.g1 (by omega),zE h.g2 (by omega),zE h.g3 (by omega),zE h.g4 (by omega),zE h.g5 (by omega),zE h.g6 (by omega),zE h.e1 (by omega),zE h.e2 (by omega),zE h.e3 (by omega),zE h.e4 (by omega),zE h.e5 (by omega),xK h.e6⟩
theorem MidAt.keep{wx:World}{X:Nat}{op x y n:Int}{v4 v5 v6:Value}{xA yA nA:Int}{a4:Option Addr}{l4 c4:Nat}{a5:Option Addr}{l5 c5:Nat}{a6:Option Addr}{l6 c6:Nat}(h:MidAt wx X op x y n v4 v5 v6 xA yA nA a4 l4 c4 a5 l5 c5 a6 l6 c6){w2:World}(f:∀a v,wx.cell? a=some v->w2.cell? a=some v):MidAt w2 X op x y n v4 v5 v6 xA yA nA a4 l4 c4 a5 l5 c5 a6 l6 c6:=
 ⟨f _ _ h.g1,f _ _ h.g2,f _ _ h.g3,f _ _ h.g4,f _ _ h.g5,f _ _ h.g6,f _ _ h.e1,f _ _ h.e2,f _ _ h.e3,f _ _ h.e4,f _ _ h.e5,f _ _ h.e6⟩
theorem MidAt.drew{wx:World}{X:Nat}{op x y n:Int}{v4 v5 v6:Value}{xA yA nA:Int}{a4:Option Addr}{l4 c4:Nat}{a5:Option Addr}{l5 c5:Nat}{a6:Option Addr}{l6 c6:Nat}(h:MidAt wx X op x y n v4 v5 v6 xA yA nA a4 l4 c4 a5 l5 c5 a6 l6 c6):MidAt wx.drew X op x y n v4 v5 v6 xA yA nA a4 l4 c4 a5 l5 c5 a6 l6 c6:=h.keep λ_ _ h=>h
theorem MidAt.alloc{wx:World}{X:Nat}{op x y n:Int}{v4 v5 v6:Value}{xA yA nA:Int}{a4:Option Addr}{l4 c4:Nat}{a5:Option Addr}{l5 c5:Nat}{a6:Option Addr}{l6 c6:Nat}(h:MidAt wx X op x y n v4 v5 v6 xA yA nA a4 l4 c4 a5 l5 c5 a6 l6 c6)(o:Obj):MidAt (wx.alloc o) X op x y n v4 v5 v6 xA yA nA a4 l4 c4 a5 l5 c5 a6 l6 c6:=h.keep (zA ((Below.refl _ _).alloc (Nat.le_refl _) o))
theorem jI(w:World)(xs:List Int)(hl:xs.length<=9223372036854775807):IntsIn (w.alloc (.cells (xs.map λx:Int=>Value.int .i64 x).toArray 3)) (some ⟨w.heap.size,0,none⟩) xs:=
 ⟨hl,.inr ⟨_,_,rfl,λi x hx=>by rw[World.cell?_alloc_at _ _ _ _ rfl];simp[hx]⟩⟩
theorem yS(l:List Int)(ao:Option Addr)(c:Nat)(w:World)(h:IntsIn w ao l)(hy:l.all zM=true):Calls Tryz.prog 75 #[.slice ao l.length c] w λe w'=>e=.returned (.tuple #[])/\w=w':=by
 have:=index_any l ao c w h;rw[hy,zV]at this;exact this
theorem index_no(l:List Int)(ao:Option Addr)(c:Nat)(w:World)(h:IntsIn w ao l)(hy:l.all zM=false):Calls Tryz.prog 75 #[.slice ao l.length c] w λe w'=>e=.panicked (fault 30)/\w=w':=by
 have:=index_any l ao c w h;rw[hy,qC]at this;exact this
theorem all_one(x:Int):[x].all zM=zM x:=by simp
theorem all_two(x y:Int):[x,y].all zM=(zM x&&zM y):=by simp
theorem two_cells{w w2:World}{cs ds:Array Value}{t:TypeId}(b2:Below ((w.alloc (.cells cs t)).alloc (.cells ds t)).heap.size ((w.alloc (.cells cs t)).alloc (.cells ds t)) w2):(∀j v,cs[j]? =some v->w2.cell? ⟨w.heap.size,j,none⟩=some v)/\(∀j v,ds[j]? =some v->w2.cell? ⟨w.heap.size+1,j,none⟩=some v)/\(∀j,w2.frozen? ⟨w.heap.size+1,j,none⟩=false):=by
 refine⟨λj v h=> ?_,λj v h=> ?_,λj=> ?_⟩
 . rw[b2.cell (by simp;omega),World.cell?_alloc_past _ _ _ (by simp),World.cell?_alloc_at _ _ _ _ rfl,h]
 . rw[b2.cell (by simp),World.cell?_alloc_at _ _ _ _ (by simp),h]
 . rw[b2.frozen (by simp),World.frozen?_alloc_at _ _ _ _ (by simp)]
def FormedC (l:Il):Prop:=∀(ao:Option Addr) (c:Nat) (w:World),l.len<=9223372036854775807->IlIn w ao 0 l->
 Calls Tryz.prog 79 #[.slice ao l.len c] w λe w'=>e=endE (zZ l) 30/\Below w.heap.size w w'
theorem hmf:∀(fn:Fn) (first cap:Array Value) (w:World),(Instr.makeFunc fn first cap).run Tryz.prog w=.ok (.func fn first cap) w:=λ_ _ _ _=>rfl
theorem formed_step(l:Il)(hs:Sub FormedC l):FormedC l:=by
 intro ao c w hl hw;obtain⟨N,hN⟩:∃N,l.len=N:=⟨_,rfl⟩
 rw[hN]at hl ⊢;have hmf:=hmf;go_enter Tryz.func79,Tryz.ntmps79;go_wp2_with fail;go_loopw [8] (λvi wr=>∃(i:Nat) (r:Il),vi=.int .i64 i/\i+r.len=N/\Hid (IlIn wr ao i r)/\Hid (Sub FormedC r)/\Hid (zZ l=zZ r)/\Hid (Below w.heap.size w wr)) (λvi _=>N-(intOf vi).toNat)
 case atStart=>exact⟨0,l,rfl,by omega,zh hw,zh hs,zh rfl,zh (Below.refl _ _)⟩
 case round=>
  obtain⟨i,r,rfl,hi,hr,hsub,hc,hb⟩:=hrel;cases r with
  |nil=>
    have hiN:i=N:=(by simpa[Il.len]using hi)
    subst hiN;go_wp2;go_end0;exact⟨by rw[hc.out];rfl,hb.out⟩
  |cons op x y n ls body els rest=>
    have hlen:i+(rest.len+1)=N:=hi;have hlt:i<N:=(by omega)
    obtain⟨b,o,a4,k4,a5,k5,a6,k6,rfl,hh,hrest⟩:=hr.out.head;obtain⟨c0,c1,c2,c3,c4,c5,c6,i4,l5,i5,l6,i6⟩:=hh;have hr2:=zh hrest;have hi4:=zh i4;have hi5:=zh i5;have hi6:=zh i6;have hal2:∀o1 o2,Below wr.heap.size wr ((wr.alloc o1).alloc o2):=λo1 o2=>((Below.refl _ _).alloc (Nat.le_refl _) o1).alloc (by simp) o2;have hcb:=λw h0=>zh (hsub.out.1 a5 k5 w l5 h0);have hce:=λw h0=>zh (hsub.out.2.1 a6 k6 w l6 h0);have hsr:=zh hsub.out.2.2;have hc1:Hid (zZ l=(zC op x y n ls body.len els.len&&(zZ body&&(zZ els&&zZ rest)))):=hc;have HF:=λw=>zh (form_any op w);clear hr hrest i4 i5 i6 hi hsub hc;obtain⟨F,hF⟩:∃F,zG op=F:=⟨_,rfl⟩
    have hF2:=zh hF;simp only[hF]at HF;clear hF
    go_upto_region 5 with fail
    rename_i hK5;go_wp2_with fail;refine(HF _).out.mono ?_;rename_i hL;rintro e w2 ⟨rfl,b2⟩;refine hL _ _ ?_;refine hK5 _ _ ?_;have ⟨tx,ty,tz⟩:=two_cells b2;have g1:w2.cell? ⟨wr.heap.size,1,none⟩=some (.int .i64 x):=tx 1 _ rfl;have g2:w2.cell? ⟨wr.heap.size,2,none⟩=some (.int .i64 y):=tx 2 _ rfl;have g3:w2.cell? ⟨wr.heap.size,3,none⟩=some (.int .i64 n):=tx 3 _ rfl;have g4:w2.cell? ⟨wr.heap.size,4,none⟩=some (.slice a4 ls.length k4):=tx 4 _ rfl;have g5:w2.cell? ⟨wr.heap.size,5,none⟩=some (.slice a5 body.len k5):=tx 5 _ rfl;have g6:w2.cell? ⟨wr.heap.size,6,none⟩=some (.slice a6 els.len k6):=tx 6 _ rfl;have g0:w2.cell? ⟨wr.heap.size,0,none⟩=some (.int .i64 op):=tx 0 _ rfl;have e1:w2.cell? ⟨wr.heap.size+1,1,none⟩=some (.int .i64 0):=ty 1 _ rfl;have e2:w2.cell? ⟨wr.heap.size+1,2,none⟩=some (.int .i64 0):=ty 2 _ rfl;have e3:w2.cell? ⟨wr.heap.size+1,3,none⟩=some (.int .i64 0):=ty 3 _ rfl;have e4:w2.cell? ⟨wr.heap.size+1,4,none⟩=some (.slice none 0 0):=ty 4 _ rfl;have e5:w2.cell? ⟨wr.heap.size+1,5,none⟩=some (.slice none 0 0):=ty 5 _ rfl;have e6:w2.cell? ⟨wr.heap.size+1,6,none⟩=some (.slice none 0 0):=ty 6 _ rfl;have hb2:=zh ((hal2 _ _).trans (b2.mono (by simp;omega)));have hlt1:wr.heap.size<w2.heap.size:=(by have:=b2.size;simp at this;omega)
    have hlt2:wr.heap.size+1<w2.heap.size:=(by have:=b2.size;simp at this;omega)
    clear tx ty b2 c0 c1 c2 c3 c4 c5 c6;have hfc:Hid (zC op x y n ls body.len els.len=false->zZ l=false):=zh (λh=>by rw[hc1.out,h];rfl);have hft:Hid (zC op x y n ls body.len els.len=true->zZ l=(zZ body&&(zZ els&&zZ rest))):=zh (λh=>by rw[hc1.out,h];rfl);clear hc1
    go_cut [] from 19 to 102 (λwx=>Mid wr wx op x y n ls body.len els.len (.slice a4 ls.length k4) (.slice a5 body.len k5) (.slice a6 els.len k6))
    case first=>
     have M0:=zh (MidAt.mk (op:=op) g1 g2 g3 g4 g5 g6 e1 e2 e3 e4 e5 e6)
     by_cases f1:F=1
     . subst f1;go_wp2_with fail;go_meet
       case rel=>exact⟨0,0,0,none,0,0,none,0,0,none,0,0,M0.out,hb2.out,by unfold zC;rw[if_pos hF2.out];rfl⟩
     by_cases f2:F=2
     . subst f2;have q1:=tz 1;have q5:=tz 5;have q6:=tz 6;cases hres:res1 x
       . have HR:=λw h=>zh (result_no x wr.heap.size w hres h);go_wp2_with (first |(go_at_call 92;refine(HR _ g1).out.mono ?_;rintro e w' ⟨rfl,rfl⟩))
         exact⟨rfl,by rw[hfc.out (by unfold zC;rw[if_neg (by rw[hF2.out];decide),if_pos hF2.out];rw[hres];rfl)];rfl,hb.out.trans (hb2.out.mono hb.out.size)⟩
       . have HR:=λw h=>zh (result_yes x wr.heap.size w hres h);go_wp2_with (first |(go_at_call 92;refine(HR _ g1).out.mono ?_;rintro e w' ⟨rfl,rfl⟩))
         go_region
         go_wp2_with fail;go_meet
         case rel=>exact⟨x,0,0,none,0,0,a5,body.len,k5,none,0,0,((M0.out.set1 x).set5 a5 body.len k5).drew,((hb2.out.setCell (by simp) _).setCell (by simp) _).drew,by unfold zC;rw[if_neg (by rw[hF2.out];decide),if_pos hF2.out,hres];simp⟩
     by_cases f3:F=3
     . subst f3;have q1:=tz 1;have q5:=tz 5;have q6:=tz 6;cases hres:res1 x
       . have HR:=λw h=>zh (result_no x wr.heap.size w hres h);go_wp2_with (first |(go_at_call 92;refine(HR _ g1).out.mono ?_;rintro e w' ⟨rfl,rfl⟩))
         exact⟨rfl,by rw[hfc.out (by unfold zC;rw[if_neg (by rw[hF2.out];decide),if_neg (by rw[hF2.out];decide),if_pos hF2.out];rw[hres];rfl)];rfl,hb.out.trans (hb2.out.mono hb.out.size)⟩
       . have HR:=λw h=>zh (result_yes x wr.heap.size w hres h);go_wp2_with (first |(go_at_call 92;refine(HR _ g1).out.mono ?_;rintro e w' ⟨rfl,rfl⟩))
         go_region
         go_wp2_with fail;go_meet
         case rel=>exact⟨x,0,0,none,0,0,a5,body.len,k5,a6,els.len,k6,(((M0.out.set1 x).set5 a5 body.len k5).set6 a6 els.len k6).drew,(((hb2.out.setCell (by simp) _).setCell (by simp) _).setCell (by simp) _).drew,by unfold zC;rw[if_neg (by rw[hF2.out];decide),if_neg (by rw[hF2.out];decide),if_pos hF2.out,hres];simp⟩
     by_cases f4:F=4
     . subst f4;have q1:=tz 1;cases hres:zM x
       . have HI:=λw h=>zh (index_no [x] (some ⟨w2.heap.size,0,none⟩) 1 w h ((all_one x).trans hres));go_wp2_with (first |(go_at_call 75;refine(HI _ (jI w2 [x] (by simp))).out.mono ?_;rintro e w' ⟨rfl,rfl⟩))
         exact⟨rfl,by rw[hfc.out (by unfold zC;rw[if_neg (by rw[hF2.out];decide),if_neg (by rw[hF2.out];decide),if_neg (by rw[hF2.out];decide),if_pos (by rw[hF2.out];decide)];rw[hres];rfl)];rfl,hb.out.trans ((hb2.out.alloc hb2.out.size _).mono hb.out.size)⟩
       . have HI:=λw h=>zh (yS [x] (some ⟨w2.heap.size,0,none⟩) 1 w h ((all_one x).trans hres));go_wp2_with (first |(go_at_call 75;refine(HI _ (jI w2 [x] (by simp))).out.mono ?_;rintro e w' ⟨rfl,rfl⟩))
         go_meet
         case rel=>exact⟨x,0,0,none,0,0,none,0,0,none,0,0,(M0.out.set1 x).alloc _,(hb2.out.setCell (by simp) _).alloc (hb2.out.setCell (p:=⟨wr.heap.size+1,1,none⟩) (by simp) _).size _,by unfold zC;rw[if_neg (by rw[hF2.out];decide),if_neg (by rw[hF2.out];decide),if_neg (by rw[hF2.out];decide),if_pos (by rw[hF2.out];decide),hres];simp⟩
     by_cases f6:F=6
     . subst f6;have q1:=tz 1;cases hres:zM x
       . have HI:=λw h=>zh (index_no [x] (some ⟨w2.heap.size,0,none⟩) 1 w h ((all_one x).trans hres));go_wp2_with (first |(go_at_call 75;refine(HI _ (jI w2 [x] (by simp))).out.mono ?_;rintro e w' ⟨rfl,rfl⟩))
         exact⟨rfl,by rw[hfc.out (by unfold zC;rw[if_neg (by rw[hF2.out];decide),if_neg (by rw[hF2.out];decide),if_neg (by rw[hF2.out];decide),if_pos (by rw[hF2.out];decide)];rw[hres];rfl)];rfl,hb.out.trans ((hb2.out.alloc hb2.out.size _).mono hb.out.size)⟩
       . have HI:=λw h=>zh (yS [x] (some ⟨w2.heap.size,0,none⟩) 1 w h ((all_one x).trans hres));go_wp2_with (first |(go_at_call 75;refine(HI _ (jI w2 [x] (by simp))).out.mono ?_;rintro e w' ⟨rfl,rfl⟩))
         go_meet
         case rel=>exact⟨x,0,0,none,0,0,none,0,0,none,0,0,(M0.out.set1 x).alloc _,(hb2.out.setCell (by simp) _).alloc (hb2.out.setCell (p:=⟨wr.heap.size+1,1,none⟩) (by simp) _).size _,by unfold zC;rw[if_neg (by rw[hF2.out];decide),if_neg (by rw[hF2.out];decide),if_neg (by rw[hF2.out];decide),if_pos (by rw[hF2.out];decide),hres];simp⟩
     by_cases f7:F=7
     . subst f7;have q1:=tz 1;cases hres:zM x
       . have HI:=λw h=>zh (index_no [x] (some ⟨w2.heap.size,0,none⟩) 1 w h ((all_one x).trans hres));go_wp2_with (first |(go_at_call 75;refine(HI _ (jI w2 [x] (by simp))).out.mono ?_;rintro e w' ⟨rfl,rfl⟩))
         exact⟨rfl,by rw[hfc.out (by unfold zC;rw[if_neg (by rw[hF2.out];decide),if_neg (by rw[hF2.out];decide),if_neg (by rw[hF2.out];decide),if_pos (by rw[hF2.out];decide)];rw[hres];rfl)];rfl,hb.out.trans ((hb2.out.alloc hb2.out.size _).mono hb.out.size)⟩
       . have HI:=λw h=>zh (yS [x] (some ⟨w2.heap.size,0,none⟩) 1 w h ((all_one x).trans hres));go_wp2_with (first |(go_at_call 75;refine(HI _ (jI w2 [x] (by simp))).out.mono ?_;rintro e w' ⟨rfl,rfl⟩))
         go_meet
         case rel=>exact⟨x,0,0,none,0,0,none,0,0,none,0,0,(M0.out.set1 x).alloc _,(hb2.out.setCell (by simp) _).alloc (hb2.out.setCell (p:=⟨wr.heap.size+1,1,none⟩) (by simp) _).size _,by unfold zC;rw[if_neg (by rw[hF2.out];decide),if_neg (by rw[hF2.out];decide),if_neg (by rw[hF2.out];decide),if_pos (by rw[hF2.out];decide),hres];simp⟩
     by_cases f5:F=5
     . subst f5;have q1:=tz 1;have q4:=tz 4;cases hres:zM x
       . have HI:=λw h=>zh (index_no [x] (some ⟨w2.heap.size,0,none⟩) 1 w h ((all_one x).trans hres));go_wp2_with (first |(go_at_call 75;refine(HI _ (jI w2 [x] (by simp))).out.mono ?_;rintro e w' ⟨rfl,rfl⟩))
         exact⟨rfl,by rw[hfc.out (by unfold zC;rw[if_neg (by rw[hF2.out];decide),if_neg (by rw[hF2.out];decide),if_neg (by rw[hF2.out];decide),if_neg (by rw[hF2.out];decide),if_pos hF2.out];rw[hres];rfl)];rfl,hb.out.trans ((hb2.out.alloc hb2.out.size _).mono hb.out.size)⟩
       . have HI:=λw h=>zh (yS [x] (some ⟨w2.heap.size,0,none⟩) 1 w h ((all_one x).trans hres));have hi42:=zh ((hi4.out.below hb2.out).below ((Below.refl w2.heap.size w2).alloc (Nat.le_refl _) (.cells #[.int .i64 x] 3)));cases hall:ls.all zM
         . have HL:=λw h=>zh (index_no ls a4 k4 w h hall);go_wp2_with fail;refine(HI _ (jI w2 [x] (by simp))).out.mono ?_;rintro e w' ⟨rfl,rfl⟩;go_wp2_with fail;refine(HL _ hi42.out).out.mono ?_;rintro e w' ⟨rfl,rfl⟩;go_wp2_with fail;exact⟨rfl,by rw[hfc.out (by unfold zC;rw[if_neg (by rw[hF2.out];decide),if_neg (by rw[hF2.out];decide),if_neg (by rw[hF2.out];decide),if_neg (by rw[hF2.out];decide),if_pos hF2.out];rw[hres,hall];rfl)];rfl,hb.out.trans ((hb2.out.alloc hb2.out.size _).mono hb.out.size)⟩
         . have HL:=λw h=>zh (yS ls a4 k4 w h hall);go_wp2_with fail;refine(HI _ (jI w2 [x] (by simp))).out.mono ?_;rintro e w' ⟨rfl,rfl⟩;go_wp2_with fail;refine(HL _ hi42.out).out.mono ?_;rintro e w' ⟨rfl,rfl⟩;go_wp2_with fail
           go_region
           go_wp2_with fail;go_meet
           case rel=>exact⟨x,0,0,a4,ls.length,k4,none,0,0,none,0,0,(((M0.out.set1 x).set4 a4 ls.length k4).alloc _).drew,(((hb2.out.setCell (by simp) _).setCell (by simp) _).alloc ((hb2.out.setCell (p:=⟨wr.heap.size+1,1,none⟩) (by simp) _).setCell (p:=⟨wr.heap.size+1,4,none⟩) (by simp) _).size _).drew,by unfold zC;rw[if_neg (by rw[hF2.out];decide),if_neg (by rw[hF2.out];decide),if_neg (by rw[hF2.out];decide),if_neg (by rw[hF2.out];decide),if_pos hF2.out,hres,hall];simp⟩
     by_cases f8:F=8
     . subst f8;have q1:=tz 1;have q2:=tz 2;cases hres:zM x&&zM y
       . have HI:=λw h=>zh (index_no [x,y] (some ⟨w2.heap.size,0,none⟩) 2 w h ((all_two x y).trans hres));go_wp2_with (first |(go_at_call 75;refine(HI _ (jI w2 [x,y] (by simp))).out.mono ?_;rintro e w' ⟨rfl,rfl⟩))
         exact⟨rfl,by rw[hfc.out (by unfold zC;rw[if_neg (by rw[hF2.out];decide),if_neg (by rw[hF2.out];decide),if_neg (by rw[hF2.out];decide),if_neg (by rw[hF2.out];decide),if_neg (by rw[hF2.out];decide),if_pos hF2.out];rw[<-Bool.and_assoc,hres];rfl)];rfl,hb.out.trans ((hb2.out.alloc hb2.out.size _).mono hb.out.size)⟩
       . have HI:=λw h=>zh (yS [x,y] (some ⟨w2.heap.size,0,none⟩) 2 w h ((all_two x y).trans hres));go_wp2_with (first |(go_at_call 75;refine(HI _ (jI w2 [x,y] (by simp))).out.mono ?_;rintro e w' ⟨rfl,rfl⟩))
         go_region
         go_wp2_with fail;go_meet
         case rel=>exact⟨x,y,0,none,0,0,none,0,0,none,0,0,(((M0.out.set1 x).set2 y).alloc _).drew,(((hb2.out.setCell (by simp) _).setCell (by simp) _).alloc ((hb2.out.setCell (p:=⟨wr.heap.size+1,1,none⟩) (by simp) _).setCell (p:=⟨wr.heap.size+1,2,none⟩) (by simp) _).size _).drew,by unfold zC;rw[if_neg (by rw[hF2.out];decide),if_neg (by rw[hF2.out];decide),if_neg (by rw[hF2.out];decide),if_neg (by rw[hF2.out];decide),if_neg (by rw[hF2.out];decide),if_pos hF2.out,<-Bool.and_assoc,hres];simp⟩
     by_cases f9:F=9
     . subst f9;have q3:=tz 3
       by_cases h66:op=66
       . subst h66;go_wp2_with fail;refine(qF 30 _).mono ?_;rintro e w' ⟨rfl,rfl⟩;go_wp2_with fail;go_meet
         case rel=>exact⟨0,0,n,none,0,0,none,0,0,none,0,0,M0.out.set3 n,hb2.out.setCell (by simp) _,by unfold zC;rw[if_neg (by rw[hF2.out];decide),if_neg (by rw[hF2.out];decide),if_neg (by rw[hF2.out];decide),if_neg (by rw[hF2.out];decide),if_neg (by rw[hF2.out];decide),if_neg (by rw[hF2.out];decide),if_pos hF2.out];simp⟩
       . have q66:(op==66)=false:=(by simp[h66])
         cases hres:(n==wrapI32 n)
         . go_wp2_with fail;rw[show(n==wrap64 (wrap32 n))=false from hres];refine(jV 30 _).mono ?_;rintro e w' ⟨rfl,rfl⟩;go_wp2;exact⟨rfl,by rw[hfc.out (by unfold zC;rw[if_neg (by rw[hF2.out];decide),if_neg (by rw[hF2.out];decide),if_neg (by rw[hF2.out];decide),if_neg (by rw[hF2.out];decide),if_neg (by rw[hF2.out];decide),if_neg (by rw[hF2.out];decide),if_pos hF2.out,hres,q66];rfl)];rfl,hb.out.trans (hb2.out.mono hb.out.size)⟩
         . go_wp2_with fail;rw[show(n==wrap64 (wrap32 n))=true from hres];refine(qF 30 _).mono ?_;rintro e w' ⟨rfl,rfl⟩;go_wp2_with fail;go_meet
           case rel=>exact⟨0,0,n,none,0,0,none,0,0,none,0,0,M0.out.set3 n,hb2.out.setCell (by simp) _,by unfold zC;rw[if_neg (by rw[hF2.out];decide),if_neg (by rw[hF2.out];decide),if_neg (by rw[hF2.out];decide),if_neg (by rw[hF2.out];decide),if_neg (by rw[hF2.out];decide),if_neg (by rw[hF2.out];decide),if_pos hF2.out,hres];simp⟩
     go_wp2_with fail;refine(jV 30 _).mono ?_;rintro e w' ⟨rfl,rfl⟩;go_wp2;exact⟨rfl,by rw[hfc.out (form1_no (by rw[hF2.out];omega))];rfl,hb.out.trans (hb2.out.mono hb.out.size)⟩
    case rest=>
     clear tz g0 g1 g2 g3 g4 g5 g6 e1 e2 e3 e4 e5 e6 hb2 hF2 HF hL hK5;obtain⟨xA,yA,nA,q4,m4,d4,q5,m5,d5,q6,m6,d6,hm,hbx,hform⟩:=hcut;obtain⟨g1,g2,g3,g4,g5,g6,e1,e2,e3,e4,e5,e6⟩:=hm;have hbx:=zh hbx;have hform:=zh hform;go_wp2_with (first |(go_at_call 69;first |(refine(qF 30 _).mono ?_;rintro e w' ⟨rfl,rfl⟩) |(refine(jV 30 _).mono ?_;rintro e w' ⟨rfl,rfl⟩)))
     . rename_i t1 t2 t3 t4 t5 kk ka
       have hform2:Hid (zC op x y n ls body.len els.len=((els.len:Int)==(m6:Nat))):=zh (by
        rw[hform.out];simp only[t1,t2,t3,t4,t5,beq_self_eq_true,Bool.true_and])
       clear hform t1 t2 t3 t4 t5
       generalize hB:((els.len:Int)==((m6:Nat):Int))=E at*
       clear hB;cases E
       . refine(jV 30 _).mono ?_;rintro e w' ⟨rfl,rfl⟩;go_wp2;exact⟨rfl,by rw[hfc.out hform2.out];rfl,hb.out.trans (hbx.out.mono hb.out.size)⟩
       . refine(qF 30 _).mono ?_;rintro e w' ⟨rfl,rfl⟩;have hft2:=zh (hft.out hform2.out);clear hft hfc hform2 e1 e2 e3 e4 e5 e6 g1 g2 g3 g4
         generalize hX:zZ body=X0 at*
         go_wp2_with fail;refine(hcb _ (hi5.out.below hbx.out)).out.mono ?_
         try rw[hX]
         clear hX;rintro e w3 ⟨rfl,b3⟩;have h6:w3.cell? ⟨wr.heap.size,6,none⟩=some (.slice a6 els.len k6):=zA b3 _ _ g6;have hb3:=zh (hbx.out.trans (b3.mono hbx.out.size));clear b3 hbx g5 g6;cases X0
         . rw[Bool.false_and]at hft2;rw[qC];go_wp2;exact⟨rfl,by rw[hft2.out];rfl,hb.out.trans (hb3.out.mono hb.out.size)⟩
         . rw[Bool.true_and]at hft2;rw[zV]
           generalize hY:zZ els=Y0 at*
           go_wp2_with fail;refine(hce _ (hi6.out.below hb3.out)).out.mono ?_
           try rw[hY]
           clear hY;rintro e w4 ⟨rfl,b4⟩;have hb4:=zh (hb3.out.trans (b4.mono hb3.out.size));clear b4 hb3;cases Y0
           . rw[Bool.false_and]at hft2;rw[qC];go_wp2;exact⟨rfl,by rw[hft2.out];rfl,hb.out.trans (hb4.out.mono hb.out.size)⟩
           . rw[Bool.true_and]at hft2;rw[zV];go_wp2
             go_roundw
             case rel=>exact⟨i+1,rest,by simp,by omega,zh (hr2.out.below hb4.out),hsr,hft2,zh (hb.out.trans (hb4.out.mono hb.out.size))⟩
             case measure=>simp[intOf];omega
     all_goals exact⟨rfl,by rw[hfc.out (by rw[hform.out];simp[*])];rfl,hb.out.trans (hbx.out.mono hb.out.size)⟩
theorem formed_any(l:Il):FormedC l:=Il.each formed_step l
end Go.Proofs.YtacohbllbjgdgaaGreatDoor
