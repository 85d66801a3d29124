/- The contracts of Sig. -/
import Derived.Test.YtacohbllbjgdgaaGreatDoorMa
import Derived.Deep.QuietTactic
import Derived.BigQuiet
import Derived.Below
import Derived.Laws.ResultCell
import Derived.RegionTactic
import Derived.RegionCalls
import Derived.Laws.AppendOwn
set_option linter.all false
set_option maxRecDepth 100000
set_option maxHeartbeats 4000000
namespace Go.Proofs.YtacohbllbjgdgaaGreatDoor
open Go.RowKit
theorem Below.of_alloc(w:World)(o:Obj):Below w.heap.size w (w.alloc o):=(Below.refl _ _).alloc (Nat.le_refl _) o
structure OfIs (op k n t:Int):Prop where
 is:(op=69/\k=2/\n=0/\t=127)\/(op=80/\k=2/\n=0/\t=126)\/(70<=op/\op<=79/\k=4/\n=op-70/\t=127)\/(81<=op/\op<=90/\k=4/\n=op-81/\t=126)\/
  (103<=op/\op<=105/\k=1/\n=op-103/\t=127)\/(121<=op/\op<=123/\k=1/\n=op-121/\t=126)\/(106<=op/\op<=120/\k=3/\n=op-106/\t=127)\/(124<=op/\op<=138/\k=3/\n=op-124/\t=126)\/
  (op=167/\k=5/\n=0/\t=126)\/(op=172/\k=5/\n=1/\t=127)\/(op=173/\k=5/\n=2/\t=127)\/
  ((op<=68\/(91<=op/\op<=102)\/(139<=op/\op<=166)\/(168<=op/\op<=171)\/174<=op)/\k=0/\n=0/\t=0)
theorem of_any(op k n t:Int)(w:World)(h:OfIs op k n t):Calls Tryz.prog 116 #[.int .i64 op] w λe w'=>e=.returned (.agg #[.int .i64 k,.int .i64 n,.int .i64 t])/\w.alloc (.cells #[.int .i64 k,.int .i64 n,.int .i64 t] 153)=w':=by
 rcases h.is with⟨rfl,rfl,rfl,rfl⟩ |⟨rfl,rfl,rfl,rfl⟩ |⟨g1,g2,rfl,rfl,rfl⟩ |⟨g1,g2,rfl,rfl,rfl⟩ |⟨g1,g2,rfl,rfl,rfl⟩ |⟨g1,g2,rfl,rfl,rfl⟩ |⟨g1,g2,rfl,rfl,rfl⟩ |⟨g1,g2,rfl,rfl,rfl⟩ |⟨rfl,rfl,rfl,rfl⟩ |⟨rfl,rfl,rfl,rfl⟩ |⟨rfl,rfl,rfl,rfl⟩ |⟨g1 |g1 |g1 |g1 |g1,rfl,rfl,rfl⟩
 all_goals
  go_enter Tryz.func116,Tryz.ntmps116;go_wp2;exact bodyPost_ret (by simp[results,Tryz.results116,go_sem]) rfl ⟨rfl,rfl⟩
theorem of_ex(op:Int):∃k n t,OfIs op k n t:=by
 by_cases c0:op=69
 . exact⟨2,0,127,⟨(.inl ⟨c0,rfl,rfl,rfl⟩)⟩⟩
 by_cases c1:op=80
 . exact⟨2,0,126,⟨(.inr (.inl ⟨c1,rfl,rfl,rfl⟩))⟩⟩
 by_cases c2:70<=op/\op<=79
 . exact⟨4,op-70,127,⟨(.inr (.inr (.inl ⟨c2.1,c2.2,rfl,rfl,rfl⟩)))⟩⟩
 by_cases c3:81<=op/\op<=90
 . exact⟨4,op-81,126,⟨(.inr (.inr (.inr (.inl ⟨c3.1,c3.2,rfl,rfl,rfl⟩))))⟩⟩
 by_cases c4:103<=op/\op<=105
 . exact⟨1,op-103,127,⟨(.inr (.inr (.inr (.inr (.inl ⟨c4.1,c4.2,rfl,rfl,rfl⟩)))))⟩⟩
 by_cases c5:121<=op/\op<=123
 . exact⟨1,op-121,126,⟨(.inr (.inr (.inr (.inr (.inr (.inl ⟨c5.1,c5.2,rfl,rfl,rfl⟩))))))⟩⟩
 by_cases c6:106<=op/\op<=120
 . exact⟨3,op-106,127,⟨(.inr (.inr (.inr (.inr (.inr (.inr (.inl ⟨c6.1,c6.2,rfl,rfl,rfl⟩)))))))⟩⟩
 by_cases c7:124<=op/\op<=138
 . exact⟨3,op-124,126,⟨(.inr (.inr (.inr (.inr (.inr (.inr (.inr (.inl ⟨c7.1,c7.2,rfl,rfl,rfl⟩))))))))⟩⟩
 by_cases c8:op=167
 . exact⟨5,0,126,⟨(.inr (.inr (.inr (.inr (.inr (.inr (.inr (.inr (.inl ⟨c8,rfl,rfl,rfl⟩)))))))))⟩⟩
 by_cases c9:op=172
 . exact⟨5,1,127,⟨(.inr (.inr (.inr (.inr (.inr (.inr (.inr (.inr (.inr (.inl ⟨c9,rfl,rfl,rfl⟩))))))))))⟩⟩
 by_cases c10:op=173
 . exact⟨5,2,127,⟨(.inr (.inr (.inr (.inr (.inr (.inr (.inr (.inr (.inr (.inr (.inl ⟨c10,rfl,rfl,rfl⟩)))))))))))⟩⟩
 exact⟨0,0,0,⟨.inr (.inr (.inr (.inr (.inr (.inr (.inr (.inr (.inr (.inr (.inr ⟨by omega,rfl,rfl,rfl⟩))))))))))⟩⟩
def sN (k:Int):Int:=if k=0 then 0 else if k=3 then 2 else if k=4 then 2 else 1
def sR (k t:Int):Int:=if k=0 then 0 else if k=2 then 127 else if k=4 then 127 else if k=5 then 253-t else t
theorem rsig_any(op k n t:Int)(w:World)(h:OfIs op k n t):Calls Tryz.prog 114 #[.int .i64 op] w λe w'=>e=.returned (.tuple #[.int .i64 (sN k),.int .i64 t,.int .i64 (sR k t)])/\w=w':=by
 rcases h.is with⟨rfl,rfl,rfl,rfl⟩ |⟨rfl,rfl,rfl,rfl⟩ |⟨g1,g2,rfl,rfl,rfl⟩ |⟨g1,g2,rfl,rfl,rfl⟩ |⟨g1,g2,rfl,rfl,rfl⟩ |⟨g1,g2,rfl,rfl,rfl⟩ |⟨g1,g2,rfl,rfl,rfl⟩ |⟨g1,g2,rfl,rfl,rfl⟩ |⟨rfl,rfl,rfl,rfl⟩ |⟨rfl,rfl,rfl,rfl⟩ |⟨rfl,rfl,rfl,rfl⟩ |⟨g1 |g1 |g1 |g1 |g1,rfl,rfl,rfl⟩
 all_goals
  clear h;go_enter Tryz.func114,Tryz.ntmps114;go_wp2;all_goals go_ret3
  all_goals first |(exact⟨rfl,rfl⟩) |(exfalso;simp only[beq_iff_eq]at*;omega)
theorem of_k{op k n t:Int}(h:OfIs op k n t):(k=0/\t=0)\/k=1\/k=2\/k=3\/k=4\/(k=5/\(t=126\/t=127)):=by
 rcases h.is with⟨_,h,_,g⟩ |⟨_,h,_,g⟩ |⟨_,_,h,_,g⟩ |⟨_,_,h,_,g⟩ |⟨_,_,h,_,g⟩ |⟨_,_,h,_,g⟩ |⟨_,_,h,_,g⟩ |⟨_,_,h,_,g⟩ |⟨_,h,_,g⟩ |⟨_,h,_,g⟩ |⟨_,h,_,g⟩ |⟨_,h,_,g⟩
 all_goals omega
def SigIs (w:World) (k t:Int) (m:Nat) (e:Ending) (w':World):Prop:=
 ∃v,e=.returned (.tuple #[v,.int .i64 (sR k t),.bool (k !=0)])/\Below w.heap.size w w'
theorem sig_any(op k n t:Int)(w:World)(h:OfIs op k n t):Calls Tryz.prog 94 #[.int .i64 op] w (SigIs w k t (sN k).toNat):=by
 have HF:=λw=>zh (of_any op k n t w h);have hk:=of_k h;clear h
 rcases hk with⟨rfl,rfl⟩ |rfl |rfl |rfl |rfl |⟨rfl,ht⟩
 . go_enter Tryz.func94,Tryz.ntmps94;go_wp2_with fail;refine(HF _).out.mono ?_;rintro e w' ⟨rfl,rfl⟩;go_wp2
   go_ret3
   exact⟨_,rfl,(Below.of_alloc w _).alloc (by simp) _⟩
 . go_enter Tryz.func94,Tryz.ntmps94;go_wp2_with fail;refine(HF _).out.mono ?_;rintro e w' ⟨rfl,rfl⟩;go_wp2
   go_region
   all_goals
    go_wp2
    go_ret3
    refine⟨_,rfl,?_⟩
    . first |exact(((Below.of_alloc w _).alloc (by simp) _).alloc (by simp;omega) _).drew |exact((Below.of_alloc w _).alloc (by simp) _).alloc (by simp;omega) _
 . go_enter Tryz.func94,Tryz.ntmps94;go_wp2_with fail;refine(HF _).out.mono ?_;rintro e w' ⟨rfl,rfl⟩;go_wp2
   all_goals
    go_ret3
    refine⟨_,rfl,?_⟩
    . first |exact(((Below.of_alloc w _).alloc (by simp) _).alloc (by simp;omega) _).drew |exact((Below.of_alloc w _).alloc (by simp) _).alloc (by simp;omega) _
 . go_enter Tryz.func94,Tryz.ntmps94;go_wp2_with fail;refine(HF _).out.mono ?_;rintro e w' ⟨rfl,rfl⟩;go_wp2
   go_region
   all_goals
    go_wp2
    go_ret3
    refine⟨_,rfl,?_⟩
    . first |exact(((Below.of_alloc w _).alloc (by simp) _).alloc (by simp;omega) _).drew |exact((Below.of_alloc w _).alloc (by simp) _).alloc (by simp;omega) _
 . go_enter Tryz.func94,Tryz.ntmps94;go_wp2_with fail;refine(HF _).out.mono ?_;rintro e w' ⟨rfl,rfl⟩;go_wp2
   all_goals
    go_ret3
    refine⟨_,rfl,?_⟩
    . first |exact(((Below.of_alloc w _).alloc (by simp) _).alloc (by simp;omega) _).drew |exact((Below.of_alloc w _).alloc (by simp) _).alloc (by simp;omega) _
 . rcases ht with rfl |rfl
   all_goals
    go_enter Tryz.func94,Tryz.ntmps94;go_wp2_with fail;refine(HF _).out.mono ?_;rintro e w' ⟨rfl,rfl⟩;go_wp2
    go_region
    all_goals
     go_wp2
     go_ret3
     refine⟨_,rfl,?_⟩
     . first |exact(((Below.of_alloc w _).alloc (by simp) _).alloc (by simp;omega) _).drew |exact((Below.of_alloc w _).alloc (by simp) _).alloc (by simp;omega) _
theorem within_any(op a b:Int)(w:World):Calls Tryz.prog 78 #[.int .i64 op,.int .i64 a,.int .i64 b] w λe w'=>e=.returned (.bool (decide (a<=op)&&decide (op<=b)))/\w=w':=by
 go_enter Tryz.func78,Tryz.ntmps78;go_wp2;all_goals go_ret
 all_goals exact⟨by first |rfl |(simp_all;done) |(simp;omega),rfl⟩
def zG (op:Int):Int:=
 if(69<=op/\op<=90)\/(103<=op/\op<=138)\/op=167\/op=172\/op=173 then 1
 else if op=0\/op=1\/op=15\/op=26\/op=27\/op=63\/op=64 then 1
 else if op=2\/op=3 then 2
 else if op=4 then 3
 else if op=12\/op=13 then 4
 else if op=14 then 5
 else if op=16\/(32<=op/\op<=36)then 6
 else if op=17 then 7
 else if op=65\/op=66 then 9
 else if op=42\/op=43\/op=56\/op=57\/op=67\/op=68 then 10
 else if 40<=op/\op<=62 then 8
 else if(91<=op/\op<=102)\/(139<=op/\op<=166)\/(168<=op/\op<=171)\/(174<=op/\op<=191)then 10
 else 0
theorem of_0{op n t:Int}(h:OfIs op 0 n t):¬((69<=op/\op<=90)\/(103<=op/\op<=138)\/op=167\/op=172\/op=173):=by
 rcases h.is with⟨g1,h,e1,e2⟩ |⟨g1,h,e1,e2⟩ |⟨g1,g2,h,e1,e2⟩ |⟨g1,g2,h,e1,e2⟩ |⟨g1,g2,h,e1,e2⟩ |⟨g1,g2,h,e1,e2⟩ |⟨g1,g2,h,e1,e2⟩ |⟨g1,g2,h,e1,e2⟩ |⟨g1,h,e1,e2⟩ |⟨g1,h,e1,e2⟩ |⟨g1,h,e1,e2⟩ |⟨g1,h,e1,e2⟩
 all_goals omega
theorem of_non{op k n t:Int}(h:OfIs op k n t)(hk:k≠0):zG op=1:=by
 have:(69<=op/\op<=90)\/(103<=op/\op<=138)\/op=167\/op=172\/op=173:=by
  rcases h.is with⟨g1,h,e1,e2⟩ |⟨g1,h,e1,e2⟩ |⟨g1,g2,h,e1,e2⟩ |⟨g1,g2,h,e1,e2⟩ |⟨g1,g2,h,e1,e2⟩ |⟨g1,g2,h,e1,e2⟩ |⟨g1,g2,h,e1,e2⟩ |⟨g1,g2,h,e1,e2⟩ |⟨g1,h,e1,e2⟩ |⟨g1,h,e1,e2⟩ |⟨g1,h,e1,e2⟩ |⟨g1,h,e1,e2⟩
  all_goals omega
 unfold zG;rw[if_pos this]
theorem form_any(op:Int)(w:World):Calls Tryz.prog 93 #[.int .i64 op] w λe w'=>e=.returned (.int .i64 (zG op))/\Below w.heap.size w w':=by
 obtain⟨k,n,t,h⟩:=of_ex op;have HS:∀w,Hid (Calls Tryz.prog 94 #[.int .i64 op] w λe w'=>∃v,e=.returned (.tuple #[v,.int .i64 (sR k t),.bool (k !=0)])/\Below w.heap.size w w'):=λw=>zh (sig_any op k n t w h)
 by_cases hk:k=0
 . subst hk;have h0:=of_0 h;clear h;rw[show((0:Int) !=0)=false from rfl]at HS;go_enter Tryz.func93,Tryz.ntmps93;go_wp2_with fail;refine(HS _).out.mono ?_;rintro e w' ⟨v,rfl,hb⟩;go_wp2_with (first |(go_at_call 78;refine(within_any _ _ _ _).mono ?_;rintro e w' ⟨rfl,rfl⟩))
   all_goals go_ret
   all_goals refine⟨?_,hb⟩
   all_goals(unfold zG;rw[if_neg h0])
   all_goals clear HS
   all_goals simp only[beq_eq_false_iff_ne,beq_iff_eq,ne_eq]at*
   all_goals repeat (first |rw[if_neg (by omega)] |rw[if_pos (by omega)])
   all_goals rfl
 . have hf:=of_non h hk;have hkb:(k !=0)=true:=(by simp[hk])
   rw[hkb]at HS;rw[hf];clear h hk hkb hf;go_enter Tryz.func93,Tryz.ntmps93;go_wp2_with fail;refine(HS _).out.mono ?_;rintro e w' ⟨v,rfl,hb⟩;go_wp2;go_ret;exact⟨rfl,hb⟩
end Go.Proofs.YtacohbllbjgdgaaGreatDoor
