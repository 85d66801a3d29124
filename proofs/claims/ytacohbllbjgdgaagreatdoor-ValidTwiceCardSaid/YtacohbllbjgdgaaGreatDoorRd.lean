/- The reference: is an instruction as its form says? -/
import Derived.Test.YtacohbllbjgdgaaGreatDoorZt
import Derived.Test.YtacohbllbjgdgaaGreatDoorMf
set_option linter.all false
set_option maxRecDepth 100000
set_option maxHeartbeats 1500000
namespace Go.Proofs.YtacohbllbjgdgaaGreatDoor
open Go.RowKit
theorem form_ne{op k:Int}(hk:k≠9)(hf:zG op=k)(h:op=65):False:=by subst h;exact hk (hf.symm.trans (by decide))
theorem form_nine{op:Int}(hf:zG op=9):op=65\/op=66:=by
 unfold zG at hf
 repeat' split at hf
 all_goals first |omega |(exfalso;omega)
theorem wrapI32_val(n:Int):wrapI32 n=(n+2147483648) % 4294967296-2147483648:=by unfold wrapI32 wrap64 wrap32;omega
theorem wrapI32_no(n:Int)(h:n< -2147483648\/n>2147483647):¬n=wrapI32 n:=by rw[wrapI32_val];omega
theorem wrapI32_yes(n:Int)(h0: -2147483648<=n)(h1:n<=2147483647):wrapI32 n=n:=by rw[wrapI32_val];omega
theorem one_1(op x y n:Int)(ls:List Int)(bl el:Nat)(a4:Option Addr)(k4:Nat)(a5:Option Addr)(k5:Nat)(a6:Option Addr)(k6:Nat)(w:World)(HI0:IntsIn w a4 ls)(l5:bl<=9223372036854775807)(l6:el<=9223372036854775807)(hf:zG op=1):Calls Tryz.prog 89 #[.agg #[.int .i64 op,.int .i64 x,.int .i64 y,.int .i64 n,.slice a4 ls.length k4,.slice a5 bl k5,.slice a6 el k6]] w λe w'=>e=.returned (.bool (zC op x y n ls bl el))/\Below w.heap.size w w':=by
 have hB:Below w.heap.size w (w.alloc (.cells #[.int .i64 op,.int .i64 x,.int .i64 y,.int .i64 n,.slice a4 ls.length k4,.slice a5 bl k5,.slice a6 el k6] 49)):=(Below.refl _ _).alloc (Nat.le_refl _) _;have l4:=HI0.1;have HI:=HI0.below hB;clear HI0;go_enter Tryz.func89,Tryz.ntmps89;go_wp2_with fail;refine(jY op _).mono ?_;rintro e w2 ⟨rfl,rfl⟩;rw[hf]
 by_cases hx:x=0
 . subst hx
   by_cases hy:y=0
   . subst hy
     by_cases hn:n=0
     . subst hn
       by_cases hls:ls.length=0
       . obtain rfl:=List.eq_nil_of_length_eq_zero hls
         by_cases hbl:bl=0
         . subst hbl
           by_cases hel:el=0
           . subst hel;have hop:op≠65:=λh=>form_ne (k:=1) (by decide) hf h;have qop:(op==65)=false:=(by simp[hop])
             have hv:zC op 0 0 0 [] 0 0=(zM 0&&(zM 0&&([]:List Int).all zM)):=(by simp[zC,hf,zM])
             clear hf;go_wp2_with fail;refine(qD 0 _).mono ?_;rintro e w2 ⟨rfl,rfl⟩;cases hX:zM 0
             . have hv2:zC op 0 0 0 [] 0 0=false:=(by rw[hv,hX];rfl)
               clear hv;go_wp2;go_ret;exact⟨by rw[hv2];rfl,hB⟩
             . go_wp2_with fail;refine(qD 0 _).mono ?_;rintro e w2 ⟨rfl,rfl⟩;cases hY:zM 0
               . have hv2:zC op 0 0 0 [] 0 0=false:=(by first |(rw[hv,hX,hY];rfl) |(rw[hX]at hY;cases hY))
                 clear hv;go_wp2;go_ret;exact⟨by rw[hv2];rfl,hB⟩
               . have hv2:zC op 0 0 0 [] 0 0=([]:List Int).all zM:=(by first |(rw[hv,hX,hY];rfl) |(rw[hv,hX];rfl))
                 clear hv;go_wp2_with fail;refine(jN ([]:List Int) a4 k4 _ HI).mono ?_;rintro e w2 ⟨rfl,rfl⟩;go_wp2;go_ret;exact⟨by rw[hv2];rfl,hB⟩
           . have hv:zC op 0 0 0 [] 0 el=false:=(by simp[zC,hf,hel])
             have q:(0:Int)<(el:Int):=(by omega)
             clear hf;go_wp2;go_ret;exact⟨by rw[hv];rfl,hB⟩
         . have hv:zC op 0 0 0 [] bl el=false:=(by simp[zC,hf,hbl])
           have q:(0:Int)<(bl:Int):=(by omega)
           clear hf;go_wp2;go_ret;exact⟨by rw[hv];rfl,hB⟩
       . have hv:zC op 0 0 0 ls bl el=false:=(by simp[zC,hf,hls])
         have q:(0:Int)<(ls.length:Int):=(by omega)
         clear hf;go_wp2;go_ret;exact⟨by rw[hv];rfl,hB⟩
     . have hv:zC op 0 0 n ls bl el=false:=(by simp[zC,hf,hn])
       have q:(n !=0)=true:=(by simp[hn])
       clear hf;go_wp2;go_ret;exact⟨by rw[hv];rfl,hB⟩
   . have hv:zC op 0 y n ls bl el=false:=(by simp[zC,hf,hy])
     have q:(y !=0)=true:=(by simp[hy])
     clear hf;go_wp2;go_ret;exact⟨by rw[hv];rfl,hB⟩
 . have hv:zC op x y n ls bl el=false:=(by simp[zC,hf,hx])
   have q:(x !=0)=true:=(by simp[hx])
   clear hf;go_wp2;go_ret;exact⟨by rw[hv];rfl,hB⟩
theorem one_2(op x y n:Int)(ls:List Int)(bl el:Nat)(a4:Option Addr)(k4:Nat)(a5:Option Addr)(k5:Nat)(a6:Option Addr)(k6:Nat)(w:World)(HI0:IntsIn w a4 ls)(l5:bl<=9223372036854775807)(l6:el<=9223372036854775807)(hf:zG op=2):Calls Tryz.prog 89 #[.agg #[.int .i64 op,.int .i64 x,.int .i64 y,.int .i64 n,.slice a4 ls.length k4,.slice a5 bl k5,.slice a6 el k6]] w λe w'=>e=.returned (.bool (zC op x y n ls bl el))/\Below w.heap.size w w':=by
 have hB:Below w.heap.size w (w.alloc (.cells #[.int .i64 op,.int .i64 x,.int .i64 y,.int .i64 n,.slice a4 ls.length k4,.slice a5 bl k5,.slice a6 el k6] 49)):=(Below.refl _ _).alloc (Nat.le_refl _) _;have l4:=HI0.1;have HI:=HI0.below hB;clear HI0;go_enter Tryz.func89,Tryz.ntmps89;go_wp2_with fail;refine(jY op _).mono ?_;rintro e w2 ⟨rfl,rfl⟩;rw[hf]
 by_cases hy:y=0
 . subst hy
   by_cases hn:n=0
   . subst hn
     by_cases hls:ls.length=0
     . obtain rfl:=List.eq_nil_of_length_eq_zero hls
       by_cases hel:el=0
       . subst hel
         by_cases h0:x=0
         . subst h0;have hv:zC op 0 0 0 [] bl 0=true:=(by simp[zC,hf,res1])
           clear hf;go_wp2;go_ret;exact⟨by rw[hv];rfl,hB⟩
         by_cases h6:x=126
         . subst h6;have hv:zC op 126 0 0 [] bl 0=true:=(by simp[zC,hf,res1])
           clear hf;go_wp2;go_ret;exact⟨by rw[hv];rfl,hB⟩
         by_cases h7:x=127
         . subst h7;have hv:zC op 127 0 0 [] bl 0=true:=(by simp[zC,hf,res1])
           clear hf;go_wp2;go_ret;exact⟨by rw[hv];rfl,hB⟩
         have hv:zC op x 0 0 [] bl 0=false:=(by simp[zC,hf,res1,h0,h6,h7])
         have q0:(x==0)=false:=(by simp[h0])
         have q6:(x==126)=false:=(by simp[h6])
         have q7:(x==127)=false:=(by simp[h7])
         clear hf;go_wp2;go_ret;exact⟨by rw[hv];rfl,hB⟩
       . have hv:zC op x 0 0 [] bl el=false:=(by simp[zC,hf,hel])
         have q:(0:Int)<(el:Int):=(by omega)
         clear hf;go_wp2;go_ret;exact⟨by rw[hv];rfl,hB⟩
     . have hv:zC op x 0 0 ls bl el=false:=(by simp[zC,hf,hls])
       have q:(0:Int)<(ls.length:Int):=(by omega)
       clear hf;go_wp2;go_ret;exact⟨by rw[hv];rfl,hB⟩
   . have hv:zC op x 0 n ls bl el=false:=(by simp[zC,hf,hn])
     have q:(n !=0)=true:=(by simp[hn])
     clear hf;go_wp2;go_ret;exact⟨by rw[hv];rfl,hB⟩
 . have hv:zC op x y n ls bl el=false:=(by simp[zC,hf,hy])
   have q:(y !=0)=true:=(by simp[hy])
   clear hf;go_wp2;go_ret;exact⟨by rw[hv];rfl,hB⟩
theorem one_3(op x y n:Int)(ls:List Int)(bl el:Nat)(a4:Option Addr)(k4:Nat)(a5:Option Addr)(k5:Nat)(a6:Option Addr)(k6:Nat)(w:World)(HI0:IntsIn w a4 ls)(l5:bl<=9223372036854775807)(l6:el<=9223372036854775807)(hf:zG op=3):Calls Tryz.prog 89 #[.agg #[.int .i64 op,.int .i64 x,.int .i64 y,.int .i64 n,.slice a4 ls.length k4,.slice a5 bl k5,.slice a6 el k6]] w λe w'=>e=.returned (.bool (zC op x y n ls bl el))/\Below w.heap.size w w':=by
 have hB:Below w.heap.size w (w.alloc (.cells #[.int .i64 op,.int .i64 x,.int .i64 y,.int .i64 n,.slice a4 ls.length k4,.slice a5 bl k5,.slice a6 el k6] 49)):=(Below.refl _ _).alloc (Nat.le_refl _) _;have l4:=HI0.1;have HI:=HI0.below hB;clear HI0;go_enter Tryz.func89,Tryz.ntmps89;go_wp2_with fail;refine(jY op _).mono ?_;rintro e w2 ⟨rfl,rfl⟩;rw[hf]
 by_cases hy:y=0
 . subst hy
   by_cases hn:n=0
   . subst hn
     by_cases hls:ls.length=0
     . obtain rfl:=List.eq_nil_of_length_eq_zero hls
       by_cases h0:x=0
       . subst h0;have hv:zC op 0 0 0 [] bl el=true:=(by simp[zC,hf,res1])
         clear hf;go_wp2;go_ret;exact⟨by rw[hv];rfl,hB⟩
       by_cases h6:x=126
       . subst h6;have hv:zC op 126 0 0 [] bl el=true:=(by simp[zC,hf,res1])
         clear hf;go_wp2;go_ret;exact⟨by rw[hv];rfl,hB⟩
       by_cases h7:x=127
       . subst h7;have hv:zC op 127 0 0 [] bl el=true:=(by simp[zC,hf,res1])
         clear hf;go_wp2;go_ret;exact⟨by rw[hv];rfl,hB⟩
       have hv:zC op x 0 0 [] bl el=false:=(by simp[zC,hf,res1,h0,h6,h7])
       have q0:(x==0)=false:=(by simp[h0])
       have q6:(x==126)=false:=(by simp[h6])
       have q7:(x==127)=false:=(by simp[h7])
       clear hf;go_wp2;go_ret;exact⟨by rw[hv];rfl,hB⟩
     . have hv:zC op x 0 0 ls bl el=false:=(by simp[zC,hf,hls])
       have q:(0:Int)<(ls.length:Int):=(by omega)
       clear hf;go_wp2;go_ret;exact⟨by rw[hv];rfl,hB⟩
   . have hv:zC op x 0 n ls bl el=false:=(by simp[zC,hf,hn])
     have q:(n !=0)=true:=(by simp[hn])
     clear hf;go_wp2;go_ret;exact⟨by rw[hv];rfl,hB⟩
 . have hv:zC op x y n ls bl el=false:=(by simp[zC,hf,hy])
   have q:(y !=0)=true:=(by simp[hy])
   clear hf;go_wp2;go_ret;exact⟨by rw[hv];rfl,hB⟩
theorem one_4(op x y n:Int)(ls:List Int)(bl el:Nat)(a4:Option Addr)(k4:Nat)(a5:Option Addr)(k5:Nat)(a6:Option Addr)(k6:Nat)(w:World)(HI0:IntsIn w a4 ls)(l5:bl<=9223372036854775807)(l6:el<=9223372036854775807)(hf:zG op=4):Calls Tryz.prog 89 #[.agg #[.int .i64 op,.int .i64 x,.int .i64 y,.int .i64 n,.slice a4 ls.length k4,.slice a5 bl k5,.slice a6 el k6]] w λe w'=>e=.returned (.bool (zC op x y n ls bl el))/\Below w.heap.size w w':=by
 have hB:Below w.heap.size w (w.alloc (.cells #[.int .i64 op,.int .i64 x,.int .i64 y,.int .i64 n,.slice a4 ls.length k4,.slice a5 bl k5,.slice a6 el k6] 49)):=(Below.refl _ _).alloc (Nat.le_refl _) _;have l4:=HI0.1;have HI:=HI0.below hB;clear HI0;go_enter Tryz.func89,Tryz.ntmps89;go_wp2_with fail;refine(jY op _).mono ?_;rintro e w2 ⟨rfl,rfl⟩;rw[hf]
 by_cases hy:y=0
 . subst hy
   by_cases hn:n=0
   . subst hn
     by_cases hls:ls.length=0
     . obtain rfl:=List.eq_nil_of_length_eq_zero hls
       by_cases hbl:bl=0
       . subst hbl
         by_cases hel:el=0
         . subst hel;have hop:op≠65:=λh=>form_ne (k:=4) (by decide) hf h;have qop:(op==65)=false:=(by simp[hop])
           have hv:zC op x 0 0 [] 0 0=(zM x&&(zM 0&&([]:List Int).all zM)):=(by simp[zC,hf,zM])
           clear hf;go_wp2_with fail;refine(qD x _).mono ?_;rintro e w2 ⟨rfl,rfl⟩;cases hX:zM x
           . have hv2:zC op x 0 0 [] 0 0=false:=(by rw[hv,hX];rfl)
             clear hv;go_wp2;go_ret;exact⟨by rw[hv2];rfl,hB⟩
           . go_wp2_with fail;refine(qD 0 _).mono ?_;rintro e w2 ⟨rfl,rfl⟩;cases hY:zM 0
             . have hv2:zC op x 0 0 [] 0 0=false:=(by first |(rw[hv,hX,hY];rfl) |(rw[hX]at hY;cases hY))
               clear hv;go_wp2;go_ret;exact⟨by rw[hv2];rfl,hB⟩
             . have hv2:zC op x 0 0 [] 0 0=([]:List Int).all zM:=(by first |(rw[hv,hX,hY];rfl) |(rw[hv,hX];rfl))
               clear hv;go_wp2_with fail;refine(jN ([]:List Int) a4 k4 _ HI).mono ?_;rintro e w2 ⟨rfl,rfl⟩;go_wp2;go_ret;exact⟨by rw[hv2];rfl,hB⟩
         . have hv:zC op x 0 0 [] 0 el=false:=(by simp[zC,hf,hel])
           have q:(0:Int)<(el:Int):=(by omega)
           clear hf;go_wp2;go_ret;exact⟨by rw[hv];rfl,hB⟩
       . have hv:zC op x 0 0 [] bl el=false:=(by simp[zC,hf,hbl])
         have q:(0:Int)<(bl:Int):=(by omega)
         clear hf;go_wp2;go_ret;exact⟨by rw[hv];rfl,hB⟩
     . have hv:zC op x 0 0 ls bl el=false:=(by simp[zC,hf,hls])
       have q:(0:Int)<(ls.length:Int):=(by omega)
       clear hf;go_wp2;go_ret;exact⟨by rw[hv];rfl,hB⟩
   . have hv:zC op x 0 n ls bl el=false:=(by simp[zC,hf,hn])
     have q:(n !=0)=true:=(by simp[hn])
     clear hf;go_wp2;go_ret;exact⟨by rw[hv];rfl,hB⟩
 . have hv:zC op x y n ls bl el=false:=(by simp[zC,hf,hy])
   have q:(y !=0)=true:=(by simp[hy])
   clear hf;go_wp2;go_ret;exact⟨by rw[hv];rfl,hB⟩
theorem one_6(op x y n:Int)(ls:List Int)(bl el:Nat)(a4:Option Addr)(k4:Nat)(a5:Option Addr)(k5:Nat)(a6:Option Addr)(k6:Nat)(w:World)(HI0:IntsIn w a4 ls)(l5:bl<=9223372036854775807)(l6:el<=9223372036854775807)(hf:zG op=6):Calls Tryz.prog 89 #[.agg #[.int .i64 op,.int .i64 x,.int .i64 y,.int .i64 n,.slice a4 ls.length k4,.slice a5 bl k5,.slice a6 el k6]] w λe w'=>e=.returned (.bool (zC op x y n ls bl el))/\Below w.heap.size w w':=by
 have hB:Below w.heap.size w (w.alloc (.cells #[.int .i64 op,.int .i64 x,.int .i64 y,.int .i64 n,.slice a4 ls.length k4,.slice a5 bl k5,.slice a6 el k6] 49)):=(Below.refl _ _).alloc (Nat.le_refl _) _;have l4:=HI0.1;have HI:=HI0.below hB;clear HI0;go_enter Tryz.func89,Tryz.ntmps89;go_wp2_with fail;refine(jY op _).mono ?_;rintro e w2 ⟨rfl,rfl⟩;rw[hf]
 by_cases hy:y=0
 . subst hy
   by_cases hn:n=0
   . subst hn
     by_cases hls:ls.length=0
     . obtain rfl:=List.eq_nil_of_length_eq_zero hls
       by_cases hbl:bl=0
       . subst hbl
         by_cases hel:el=0
         . subst hel;have hop:op≠65:=λh=>form_ne (k:=6) (by decide) hf h;have qop:(op==65)=false:=(by simp[hop])
           have hv:zC op x 0 0 [] 0 0=(zM x&&(zM 0&&([]:List Int).all zM)):=(by simp[zC,hf,zM])
           clear hf;go_wp2_with fail;refine(qD x _).mono ?_;rintro e w2 ⟨rfl,rfl⟩;cases hX:zM x
           . have hv2:zC op x 0 0 [] 0 0=false:=(by rw[hv,hX];rfl)
             clear hv;go_wp2;go_ret;exact⟨by rw[hv2];rfl,hB⟩
           . go_wp2_with fail;refine(qD 0 _).mono ?_;rintro e w2 ⟨rfl,rfl⟩;cases hY:zM 0
             . have hv2:zC op x 0 0 [] 0 0=false:=(by first |(rw[hv,hX,hY];rfl) |(rw[hX]at hY;cases hY))
               clear hv;go_wp2;go_ret;exact⟨by rw[hv2];rfl,hB⟩
             . have hv2:zC op x 0 0 [] 0 0=([]:List Int).all zM:=(by first |(rw[hv,hX,hY];rfl) |(rw[hv,hX];rfl))
               clear hv;go_wp2_with fail;refine(jN ([]:List Int) a4 k4 _ HI).mono ?_;rintro e w2 ⟨rfl,rfl⟩;go_wp2;go_ret;exact⟨by rw[hv2];rfl,hB⟩
         . have hv:zC op x 0 0 [] 0 el=false:=(by simp[zC,hf,hel])
           have q:(0:Int)<(el:Int):=(by omega)
           clear hf;go_wp2;go_ret;exact⟨by rw[hv];rfl,hB⟩
       . have hv:zC op x 0 0 [] bl el=false:=(by simp[zC,hf,hbl])
         have q:(0:Int)<(bl:Int):=(by omega)
         clear hf;go_wp2;go_ret;exact⟨by rw[hv];rfl,hB⟩
     . have hv:zC op x 0 0 ls bl el=false:=(by simp[zC,hf,hls])
       have q:(0:Int)<(ls.length:Int):=(by omega)
       clear hf;go_wp2;go_ret;exact⟨by rw[hv];rfl,hB⟩
   . have hv:zC op x 0 n ls bl el=false:=(by simp[zC,hf,hn])
     have q:(n !=0)=true:=(by simp[hn])
     clear hf;go_wp2;go_ret;exact⟨by rw[hv];rfl,hB⟩
 . have hv:zC op x y n ls bl el=false:=(by simp[zC,hf,hy])
   have q:(y !=0)=true:=(by simp[hy])
   clear hf;go_wp2;go_ret;exact⟨by rw[hv];rfl,hB⟩
theorem one_7(op x y n:Int)(ls:List Int)(bl el:Nat)(a4:Option Addr)(k4:Nat)(a5:Option Addr)(k5:Nat)(a6:Option Addr)(k6:Nat)(w:World)(HI0:IntsIn w a4 ls)(l5:bl<=9223372036854775807)(l6:el<=9223372036854775807)(hf:zG op=7):Calls Tryz.prog 89 #[.agg #[.int .i64 op,.int .i64 x,.int .i64 y,.int .i64 n,.slice a4 ls.length k4,.slice a5 bl k5,.slice a6 el k6]] w λe w'=>e=.returned (.bool (zC op x y n ls bl el))/\Below w.heap.size w w':=by
 have hB:Below w.heap.size w (w.alloc (.cells #[.int .i64 op,.int .i64 x,.int .i64 y,.int .i64 n,.slice a4 ls.length k4,.slice a5 bl k5,.slice a6 el k6] 49)):=(Below.refl _ _).alloc (Nat.le_refl _) _;have l4:=HI0.1;have HI:=HI0.below hB;clear HI0;go_enter Tryz.func89,Tryz.ntmps89;go_wp2_with fail;refine(jY op _).mono ?_;rintro e w2 ⟨rfl,rfl⟩;rw[hf]
 by_cases hy:y=0
 . subst hy
   by_cases hn:n=0
   . subst hn
     by_cases hls:ls.length=0
     . obtain rfl:=List.eq_nil_of_length_eq_zero hls
       by_cases hbl:bl=0
       . subst hbl
         by_cases hel:el=0
         . subst hel;have hop:op≠65:=λh=>form_ne (k:=7) (by decide) hf h;have qop:(op==65)=false:=(by simp[hop])
           have hv:zC op x 0 0 [] 0 0=(zM x&&(zM 0&&([]:List Int).all zM)):=(by simp[zC,hf,zM])
           clear hf;go_wp2_with fail;refine(qD x _).mono ?_;rintro e w2 ⟨rfl,rfl⟩;cases hX:zM x
           . have hv2:zC op x 0 0 [] 0 0=false:=(by rw[hv,hX];rfl)
             clear hv;go_wp2;go_ret;exact⟨by rw[hv2];rfl,hB⟩
           . go_wp2_with fail;refine(qD 0 _).mono ?_;rintro e w2 ⟨rfl,rfl⟩;cases hY:zM 0
             . have hv2:zC op x 0 0 [] 0 0=false:=(by first |(rw[hv,hX,hY];rfl) |(rw[hX]at hY;cases hY))
               clear hv;go_wp2;go_ret;exact⟨by rw[hv2];rfl,hB⟩
             . have hv2:zC op x 0 0 [] 0 0=([]:List Int).all zM:=(by first |(rw[hv,hX,hY];rfl) |(rw[hv,hX];rfl))
               clear hv;go_wp2_with fail;refine(jN ([]:List Int) a4 k4 _ HI).mono ?_;rintro e w2 ⟨rfl,rfl⟩;go_wp2;go_ret;exact⟨by rw[hv2];rfl,hB⟩
         . have hv:zC op x 0 0 [] 0 el=false:=(by simp[zC,hf,hel])
           have q:(0:Int)<(el:Int):=(by omega)
           clear hf;go_wp2;go_ret;exact⟨by rw[hv];rfl,hB⟩
       . have hv:zC op x 0 0 [] bl el=false:=(by simp[zC,hf,hbl])
         have q:(0:Int)<(bl:Int):=(by omega)
         clear hf;go_wp2;go_ret;exact⟨by rw[hv];rfl,hB⟩
     . have hv:zC op x 0 0 ls bl el=false:=(by simp[zC,hf,hls])
       have q:(0:Int)<(ls.length:Int):=(by omega)
       clear hf;go_wp2;go_ret;exact⟨by rw[hv];rfl,hB⟩
   . have hv:zC op x 0 n ls bl el=false:=(by simp[zC,hf,hn])
     have q:(n !=0)=true:=(by simp[hn])
     clear hf;go_wp2;go_ret;exact⟨by rw[hv];rfl,hB⟩
 . have hv:zC op x y n ls bl el=false:=(by simp[zC,hf,hy])
   have q:(y !=0)=true:=(by simp[hy])
   clear hf;go_wp2;go_ret;exact⟨by rw[hv];rfl,hB⟩
theorem one_5(op x y n:Int)(ls:List Int)(bl el:Nat)(a4:Option Addr)(k4:Nat)(a5:Option Addr)(k5:Nat)(a6:Option Addr)(k6:Nat)(w:World)(HI0:IntsIn w a4 ls)(l5:bl<=9223372036854775807)(l6:el<=9223372036854775807)(hf:zG op=5):Calls Tryz.prog 89 #[.agg #[.int .i64 op,.int .i64 x,.int .i64 y,.int .i64 n,.slice a4 ls.length k4,.slice a5 bl k5,.slice a6 el k6]] w λe w'=>e=.returned (.bool (zC op x y n ls bl el))/\Below w.heap.size w w':=by
 have hB:Below w.heap.size w (w.alloc (.cells #[.int .i64 op,.int .i64 x,.int .i64 y,.int .i64 n,.slice a4 ls.length k4,.slice a5 bl k5,.slice a6 el k6] 49)):=(Below.refl _ _).alloc (Nat.le_refl _) _;have l4:=HI0.1;have HI:=HI0.below hB;clear HI0;go_enter Tryz.func89,Tryz.ntmps89;go_wp2_with fail;refine(jY op _).mono ?_;rintro e w2 ⟨rfl,rfl⟩;rw[hf]
 by_cases hy:y=0
 . subst hy
   by_cases hn:n=0
   . subst hn
     by_cases hbl:bl=0
     . subst hbl
       by_cases hel:el=0
       . subst hel;have hop:op≠65:=λh=>form_ne (k:=5) (by decide) hf h;have qop:(op==65)=false:=(by simp[hop])
         have hv:zC op x 0 0 ls 0 0=(zM x&&(zM 0&&ls.all zM)):=(by simp[zC,hf,zM])
         clear hf;go_wp2_with fail;refine(qD x _).mono ?_;rintro e w2 ⟨rfl,rfl⟩;cases hX:zM x
         . have hv2:zC op x 0 0 ls 0 0=false:=(by rw[hv,hX];rfl)
           clear hv;go_wp2;go_ret;exact⟨by rw[hv2];rfl,hB⟩
         . go_wp2_with fail;refine(qD 0 _).mono ?_;rintro e w2 ⟨rfl,rfl⟩;cases hY:zM 0
           . have hv2:zC op x 0 0 ls 0 0=false:=(by first |(rw[hv,hX,hY];rfl) |(rw[hX]at hY;cases hY))
             clear hv;go_wp2;go_ret;exact⟨by rw[hv2];rfl,hB⟩
           . have hv2:zC op x 0 0 ls 0 0=ls.all zM:=(by first |(rw[hv,hX,hY];rfl) |(rw[hv,hX];rfl))
             clear hv;go_wp2_with fail;refine(jN ls a4 k4 _ HI).mono ?_;rintro e w2 ⟨rfl,rfl⟩;go_wp2;go_ret;exact⟨by rw[hv2];rfl,hB⟩
       . have hv:zC op x 0 0 ls 0 el=false:=(by simp[zC,hf,hel])
         have q:(0:Int)<(el:Int):=(by omega)
         clear hf;go_wp2;go_ret;exact⟨by rw[hv];rfl,hB⟩
     . have hv:zC op x 0 0 ls bl el=false:=(by simp[zC,hf,hbl])
       have q:(0:Int)<(bl:Int):=(by omega)
       clear hf;go_wp2;go_ret;exact⟨by rw[hv];rfl,hB⟩
   . have hv:zC op x 0 n ls bl el=false:=(by simp[zC,hf,hn])
     have q:(n !=0)=true:=(by simp[hn])
     clear hf;go_wp2;go_ret;exact⟨by rw[hv];rfl,hB⟩
 . have hv:zC op x y n ls bl el=false:=(by simp[zC,hf,hy])
   have q:(y !=0)=true:=(by simp[hy])
   clear hf;go_wp2;go_ret;exact⟨by rw[hv];rfl,hB⟩
theorem one_8(op x y n:Int)(ls:List Int)(bl el:Nat)(a4:Option Addr)(k4:Nat)(a5:Option Addr)(k5:Nat)(a6:Option Addr)(k6:Nat)(w:World)(HI0:IntsIn w a4 ls)(l5:bl<=9223372036854775807)(l6:el<=9223372036854775807)(hf:zG op=8):Calls Tryz.prog 89 #[.agg #[.int .i64 op,.int .i64 x,.int .i64 y,.int .i64 n,.slice a4 ls.length k4,.slice a5 bl k5,.slice a6 el k6]] w λe w'=>e=.returned (.bool (zC op x y n ls bl el))/\Below w.heap.size w w':=by
 have hB:Below w.heap.size w (w.alloc (.cells #[.int .i64 op,.int .i64 x,.int .i64 y,.int .i64 n,.slice a4 ls.length k4,.slice a5 bl k5,.slice a6 el k6] 49)):=(Below.refl _ _).alloc (Nat.le_refl _) _;have l4:=HI0.1;have HI:=HI0.below hB;clear HI0;go_enter Tryz.func89,Tryz.ntmps89;go_wp2_with fail;refine(jY op _).mono ?_;rintro e w2 ⟨rfl,rfl⟩;rw[hf]
 by_cases hn:n=0
 . subst hn
   by_cases hls:ls.length=0
   . obtain rfl:=List.eq_nil_of_length_eq_zero hls
     by_cases hbl:bl=0
     . subst hbl
       by_cases hel:el=0
       . subst hel;have hop:op≠65:=λh=>form_ne (k:=8) (by decide) hf h;have qop:(op==65)=false:=(by simp[hop])
         have hv:zC op x y 0 [] 0 0=(zM x&&(zM y&&([]:List Int).all zM)):=(by simp[zC,hf,zM,Bool.and_assoc])
         clear hf;go_wp2_with fail;refine(qD x _).mono ?_;rintro e w2 ⟨rfl,rfl⟩;cases hX:zM x
         . have hv2:zC op x y 0 [] 0 0=false:=(by rw[hv,hX];rfl)
           clear hv;go_wp2;go_ret;exact⟨by rw[hv2];rfl,hB⟩
         . go_wp2_with fail;refine(qD y _).mono ?_;rintro e w2 ⟨rfl,rfl⟩;cases hY:zM y
           . have hv2:zC op x y 0 [] 0 0=false:=(by first |(rw[hv,hX,hY];rfl) |(rw[hX]at hY;cases hY))
             clear hv;go_wp2;go_ret;exact⟨by rw[hv2];rfl,hB⟩
           . have hv2:zC op x y 0 [] 0 0=([]:List Int).all zM:=(by first |(rw[hv,hX,hY];rfl) |(rw[hv,hX];rfl))
             clear hv;go_wp2_with fail;refine(jN ([]:List Int) a4 k4 _ HI).mono ?_;rintro e w2 ⟨rfl,rfl⟩;go_wp2;go_ret;exact⟨by rw[hv2];rfl,hB⟩
       . have hv:zC op x y 0 [] 0 el=false:=(by simp[zC,hf,hel])
         have q:(0:Int)<(el:Int):=(by omega)
         clear hf;go_wp2;go_ret;exact⟨by rw[hv];rfl,hB⟩
     . have hv:zC op x y 0 [] bl el=false:=(by simp[zC,hf,hbl])
       have q:(0:Int)<(bl:Int):=(by omega)
       clear hf;go_wp2;go_ret;exact⟨by rw[hv];rfl,hB⟩
   . have hv:zC op x y 0 ls bl el=false:=(by simp[zC,hf,hls])
     have q:(0:Int)<(ls.length:Int):=(by omega)
     clear hf;go_wp2;go_ret;exact⟨by rw[hv];rfl,hB⟩
 . have hv:zC op x y n ls bl el=false:=(by simp[zC,hf,hn])
   have q:(n !=0)=true:=(by simp[hn])
   clear hf;go_wp2;go_ret;exact⟨by rw[hv];rfl,hB⟩
theorem one_9(op x y n:Int)(ls:List Int)(bl el:Nat)(a4:Option Addr)(k4:Nat)(a5:Option Addr)(k5:Nat)(a6:Option Addr)(k6:Nat)(w:World)(HI0:IntsIn w a4 ls)(l5:bl<=9223372036854775807)(l6:el<=9223372036854775807)(hf:zG op=9):Calls Tryz.prog 89 #[.agg #[.int .i64 op,.int .i64 x,.int .i64 y,.int .i64 n,.slice a4 ls.length k4,.slice a5 bl k5,.slice a6 el k6]] w λe w'=>e=.returned (.bool (zC op x y n ls bl el))/\Below w.heap.size w w':=by
 have hB:Below w.heap.size w (w.alloc (.cells #[.int .i64 op,.int .i64 x,.int .i64 y,.int .i64 n,.slice a4 ls.length k4,.slice a5 bl k5,.slice a6 el k6] 49)):=(Below.refl _ _).alloc (Nat.le_refl _) _;have l4:=HI0.1;have HI:=HI0.below hB;clear HI0;go_enter Tryz.func89,Tryz.ntmps89;go_wp2_with fail;refine(jY op _).mono ?_;rintro e w2 ⟨rfl,rfl⟩;rw[hf]
 by_cases hx:x=0
 . subst hx
   by_cases hy:y=0
   . subst hy
     by_cases hls:ls.length=0
     . obtain rfl:=List.eq_nil_of_length_eq_zero hls
       by_cases hbl:bl=0
       . subst hbl
         by_cases hel:el=0
         . subst hel;have hop2:op=65\/op=66:=form_nine hf
           rcases hop2 with rfl |rfl
           . by_cases hlo:n< -2147483648
             . have hv:zC 65 0 0 n [] 0 0=false:=by have hw:=wrapI32_no n (.inl hlo);simp[zC,hf,hw]
               clear hf;go_wp2;go_ret;exact⟨by rw[hv];rfl,hB⟩
             by_cases hhi:n>2147483647
             . have hv:zC 65 0 0 n [] 0 0=false:=by have hw:=wrapI32_no n (.inr hhi);simp[zC,hf,hw]
               clear hf;go_wp2;go_ret;exact⟨by rw[hv];rfl,hB⟩
             have hv:zC 65 0 0 n [] 0 0=(zM 0&&(zM 0&&([]:List Int).all zM)):=by 
              have hw:=wrapI32_yes n (by omega) (by omega);simp[zC,hf,hw,zM]
             clear hf;go_wp2_with fail;refine(qD 0 _).mono ?_;rintro e w2 ⟨rfl,rfl⟩;cases hX:zM 0
             . have hv2:zC 65 0 0 n [] 0 0=false:=(by rw[hv,hX];rfl)
               clear hv;go_wp2;go_ret;exact⟨by rw[hv2];rfl,hB⟩
             . go_wp2_with fail;refine(qD 0 _).mono ?_;rintro e w2 ⟨rfl,rfl⟩;cases hY:zM 0
               . have hv2:zC 65 0 0 n [] 0 0=false:=(by first |(rw[hv,hX,hY];rfl) |(rw[hX]at hY;cases hY))
                 clear hv;go_wp2;go_ret;exact⟨by rw[hv2];rfl,hB⟩
               . have hv2:zC 65 0 0 n [] 0 0=([]:List Int).all zM:=(by first |(rw[hv,hX,hY];rfl) |(rw[hv,hX];rfl))
                 clear hv;go_wp2_with fail;refine(jN ([]:List Int) a4 k4 _ HI).mono ?_;rintro e w2 ⟨rfl,rfl⟩;go_wp2;go_ret;exact⟨by rw[hv2];rfl,hB⟩
           . have hv:zC 66 0 0 n [] 0 0=(zM 0&&(zM 0&&([]:List Int).all zM)):=(by simp[zC,hf,zM])
             clear hf;go_wp2_with fail;refine(qD 0 _).mono ?_;rintro e w2 ⟨rfl,rfl⟩;cases hX:zM 0
             . have hv2:zC 66 0 0 n [] 0 0=false:=(by rw[hv,hX];rfl)
               clear hv;go_wp2;go_ret;exact⟨by rw[hv2];rfl,hB⟩
             . go_wp2_with fail;refine(qD 0 _).mono ?_;rintro e w2 ⟨rfl,rfl⟩;cases hY:zM 0
               . have hv2:zC 66 0 0 n [] 0 0=false:=(by first |(rw[hv,hX,hY];rfl) |(rw[hX]at hY;cases hY))
                 clear hv;go_wp2;go_ret;exact⟨by rw[hv2];rfl,hB⟩
               . have hv2:zC 66 0 0 n [] 0 0=([]:List Int).all zM:=(by first |(rw[hv,hX,hY];rfl) |(rw[hv,hX];rfl))
                 clear hv;go_wp2_with fail;refine(jN ([]:List Int) a4 k4 _ HI).mono ?_;rintro e w2 ⟨rfl,rfl⟩;go_wp2;go_ret;exact⟨by rw[hv2];rfl,hB⟩
         . have hv:zC op 0 0 n [] 0 el=false:=(by simp[zC,hf,hel])
           have q:(0:Int)<(el:Int):=(by omega)
           clear hf;go_wp2;go_ret;exact⟨by rw[hv];rfl,hB⟩
       . have hv:zC op 0 0 n [] bl el=false:=(by simp[zC,hf,hbl])
         have q:(0:Int)<(bl:Int):=(by omega)
         clear hf;go_wp2;go_ret;exact⟨by rw[hv];rfl,hB⟩
     . have hv:zC op 0 0 n ls bl el=false:=(by simp[zC,hf,hls])
       have q:(0:Int)<(ls.length:Int):=(by omega)
       clear hf;go_wp2;go_ret;exact⟨by rw[hv];rfl,hB⟩
   . have hv:zC op 0 y n ls bl el=false:=(by simp[zC,hf,hy])
     have q:(y !=0)=true:=(by simp[hy])
     clear hf;go_wp2;go_ret;exact⟨by rw[hv];rfl,hB⟩
 . have hv:zC op x y n ls bl el=false:=(by simp[zC,hf,hx])
   have q:(x !=0)=true:=(by simp[hx])
   clear hf;go_wp2;go_ret;exact⟨by rw[hv];rfl,hB⟩
theorem one_none(op x y n:Int)(ls:List Int)(bl el:Nat)(a4:Option Addr)(k4:Nat)(a5:Option Addr)(k5:Nat)(a6:Option Addr)(k6:Nat)(w:World)(hf:zG op≠1/\zG op≠2/\zG op≠3/\zG op≠4/\zG op≠6/\zG op≠7/\zG op≠5/\zG op≠8/\zG op≠9):Calls Tryz.prog 89 #[.agg #[.int .i64 op,.int .i64 x,.int .i64 y,.int .i64 n,.slice a4 ls.length k4,.slice a5 bl k5,.slice a6 el k6]] w λe w'=>e=.returned (.bool (zC op x y n ls bl el))/\Below w.heap.size w w':=by
 have hB:Below w.heap.size w (w.alloc (.cells #[.int .i64 op,.int .i64 x,.int .i64 y,.int .i64 n,.slice a4 ls.length k4,.slice a5 bl k5,.slice a6 el k6] 49)):=(Below.refl _ _).alloc (Nat.le_refl _) _;have hv:=form1_no (x:=x) (y:=y) (n:=n) (ls:=ls) (bl:=bl) (el:=el) hf;obtain⟨f,hfo⟩:∃f,zG op=f:=⟨_,rfl⟩
 rw[hfo]at hf;obtain⟨h1,h2,h3,h4,h6,h7,h5,h8,h9⟩:=hf;go_enter Tryz.func89,Tryz.ntmps89;go_wp2_with fail;refine(jY op _).mono ?_;rintro e w2 ⟨rfl,rfl⟩;rw[hfo];clear hfo;go_wp2;go_ret;exact⟨by rw[hv];rfl,hB⟩
theorem one_any(op x y n:Int)(ls:List Int)(bl el:Nat)(a4:Option Addr)(k4:Nat)(a5:Option Addr)(k5:Nat)(a6:Option Addr)(k6:Nat)(w:World)(HI0:IntsIn w a4 ls)(l5:bl<=9223372036854775807)(l6:el<=9223372036854775807):Calls Tryz.prog 89 #[.agg #[.int .i64 op,.int .i64 x,.int .i64 y,.int .i64 n,.slice a4 ls.length k4,.slice a5 bl k5,.slice a6 el k6]] w λe w'=>e=.returned (.bool (zC op x y n ls bl el))/\Below w.heap.size w w':=by
 by_cases f1:zG op=1
 . exact one_1 op x y n ls bl el a4 k4 a5 k5 a6 k6 w HI0 l5 l6 f1
 by_cases f2:zG op=2
 . exact one_2 op x y n ls bl el a4 k4 a5 k5 a6 k6 w HI0 l5 l6 f2
 by_cases f3:zG op=3
 . exact one_3 op x y n ls bl el a4 k4 a5 k5 a6 k6 w HI0 l5 l6 f3
 by_cases f4:zG op=4
 . exact one_4 op x y n ls bl el a4 k4 a5 k5 a6 k6 w HI0 l5 l6 f4
 by_cases f6:zG op=6
 . exact one_6 op x y n ls bl el a4 k4 a5 k5 a6 k6 w HI0 l5 l6 f6
 by_cases f7:zG op=7
 . exact one_7 op x y n ls bl el a4 k4 a5 k5 a6 k6 w HI0 l5 l6 f7
 by_cases f5:zG op=5
 . exact one_5 op x y n ls bl el a4 k4 a5 k5 a6 k6 w HI0 l5 l6 f5
 by_cases f8:zG op=8
 . exact one_8 op x y n ls bl el a4 k4 a5 k5 a6 k6 w HI0 l5 l6 f8
 by_cases f9:zG op=9
 . exact one_9 op x y n ls bl el a4 k4 a5 k5 a6 k6 w HI0 l5 l6 f9
 exact one_none op x y n ls bl el a4 k4 a5 k5 a6 k6 w ⟨f1,f2,f3,f4,f6,f7,f5,f8,f9⟩
end Go.Proofs.YtacohbllbjgdgaaGreatDoor
