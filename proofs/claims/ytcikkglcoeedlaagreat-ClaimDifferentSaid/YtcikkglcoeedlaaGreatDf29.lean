/- Part 29. No condition. -/
import Derived.Test.YtcikkglcoeedlaaGreatDf18
import Derived.Test.YtcikkglcoeedlaaGreatDf21
import Derived.Test.YtcikkglcoeedlaaGreatDf24
import Derived.Test.YtcikkglcoeedlaaGreatDf26
import Derived.Test.YtcikkglcoeedlaaGreatDf27
import Derived.Test.YtcikkglcoeedlaaGreatDf28
set_option linter.all false
set_option maxRecDepth 100000
set_option maxHeartbeats 4000000
namespace Go.Proofs.YtcikkglcoeedlaaGreat
open _root_.Go.Proofs.Tryz
open Go.RowKit
abbrev eI(z:Int):D:=ex (.int .i64 z)
abbrev eN(n:Nat):D:=ex (.int .i64 (n:Nat))
abbrev eB(b:Bool):D:=ex (.bool b)
abbrev eS:D:=ex (.slice none 0 0)
abbrev gN(V:List Int):Nat:=(AR V 4%4).toNat
theorem A4b(T o:Nat)(B:Nat)(L:List (Nat×List (Nat->Int)))(m:Tx L)(V:List Int)(C:I8 V)(I:V.length<=9223372036854775807)(J:Int)(E:List (List Tm))(Q:E.length<=12)(F G W S R:D)(n d r:Int)(p:List (List Tm))(b:p.length<=12):Abs prog 49 [AQ (Hh T o B L V),AQ [eI J,Ba E,F],AQ [eI 1,G,eI n,eI d,eI r,W,Ba p,S,R]] (AQ (EI 0 (Ba (pQ (AZ L) 1 E.length)) Aq Aq Aq Aq Aq Aq Aq Aq Aq)):=by
 have t:=EA T L m
 have k:(AZ L).length<=6:=by
  exact ZhV
 have K:=CH o V C 4 ZbL I;have Y:=Cj C 4;obtain⟨g,A⟩:∃g:Nat,g=gN V:=⟨_,rfl⟩;have N:AR V 4%4=((g:Nat):Int):=by rw[A,gN];omega
 have M:g<=3:=by omega
 try rw[<-A]
 have O:=Ev (AZ L) 1 E.length ZbL ZbG ZbG;refine Ab func49 λw=>?_;refine Zha ?_;refine FS (τ:=⟨[(3,.ptr 0 0),(4,.ptr 1 0),(5,.ptr 2 0),(6,.ptr 3 0),(7,.d (Ba (AZ L))),(8,.d (eN E.length)),(9,.ptr 4 0),(10,.d (eN g))],[.var 58 ((Hh T o B L V).map .d),.var 26 (([eI J,Ba E,F]:List D).map .d),.var 34 (([eI 1,G,eI n,eI d,eI r,W,Ba p,S,R]:List D).map .d),.var 46 ((EI 0 Aq Aq Aq Aq Aq Aq Aq Aq Aq Aq).map .d),.var 46 ((EI 0 Aq Aq Aq Aq Aq Aq Aq Aq Aq Aq).map .d)]⟩) ZbK [[],[(16,0)],[(17,1)],[],[(19,3)],[(20,4)],[],[],[(23,7)],[(24,8)],[(25,9)],[],[(18,2)],[(21,5)],[(9,11),(22,6)],[(26,10)]] [.av (.ptr 0 1),.av (.d (rwD T L)),.av (.d (Ba (AZ L))),.av (.ptr 1 1),.av (.d (Ba E)),.av (.d (eN E.length)),.av (.d (AQ (EI 0 Aq Aq Aq Aq Aq Aq Aq Aq Aq Aq))),.av (.ptr 0 2),.av (.d (Ov o V)),.av (.d (eI (AR V 4))),.av (.d (eN g)),.newS 46 14 (EI 0 Aq Aq Aq Aq Aq Aq Aq Aq Aq Aq),.av (.d (Ba (AZ L))),.av (.d (eN E.length)),.st 11,.av (.d (eN g))] ZbK ?_ ?_ ?_
 .refine Zhp ?_;refine Zgi ?_;refine Zgs ?_;exact Zga
 .exact ZkD
 refine Go ?_;refine AF (λv c=>v=0/\c=⟨[(3,.ptr 0 0),(4,.ptr 1 0),(5,.ptr 2 0),(6,.ptr 3 0),(7,.d (Ba (AZ L))),(8,.d (eN E.length)),(9,.ptr 4 0),(10,.d (eN g)),(11,.d (eI 0))],[.var 58 ((Hh T o B L V).map .d),.var 26 (([eI J,Ba E,F]:List D).map .d),.var 34 (([eI 1,G,eI n,eI d,eI r,W,Ba p,S,R]:List D).map .d),.var 46 ((EI 0 Aq Aq Aq Aq Aq Aq Aq Aq Aq Aq).map .d),.var 46 ((EI 0 (Ba (pQ (AZ L) 1 E.length)) Aq Aq Aq Aq Aq Aq Aq Aq Aq).map .d)]⟩) ?le ⟨rfl,rfl⟩ ?round
 case le=>exact Ac Zcy Zcu
 case round=>
  exact Zbw
theorem A4a(T o:Nat)(B:Nat)(L:List (Nat×List (Nat->Int)))(m:Tx L)(V:List Int)(C:I8 V)(I:V.length<=9223372036854775807)(J:Int)(E:List (List Tm))(Q:E.length<=12)(F G W S R:D)(n d r:Int)(p:List (List Tm))(b:p.length<=12):Abs prog 49 [AQ (Hh T o B L V),AQ [eI J,Ba E,F],AQ [eI 3,G,eI n,eI d,eI r,W,Ba p,S,R]] (AQ (EI ((gN V+1:Nat):Int) (Ba (pQ (AZ L) 1 E.length)) Aq Aq Aq Aq Aq Aq Aq Aq Aq)):=by
 have t:=EA T L m
 have k:(AZ L).length<=6:=by
  exact ZhV
 have K:=CH o V C 4 ZbL I;have Y:=Cj C 4;obtain⟨g,A⟩:∃g:Nat,g=gN V:=⟨_,rfl⟩;have N:AR V 4%4=((g:Nat):Int):=by rw[A,gN];omega
 have M:g<=3:=by omega
 try rw[<-A]
 have O:=Ev (AZ L) 1 E.length ZbL ZbG ZbG;refine Ab func49 λw=>?_;refine Zha ?_;refine FS (τ:=⟨[(3,.ptr 0 0),(4,.ptr 1 0),(5,.ptr 2 0),(6,.ptr 3 0),(7,.d (Ba (AZ L))),(8,.d (eN E.length)),(9,.ptr 4 0),(10,.d (eN g))],[.var 58 ((Hh T o B L V).map .d),.var 26 (([eI J,Ba E,F]:List D).map .d),.var 34 (([eI 3,G,eI n,eI d,eI r,W,Ba p,S,R]:List D).map .d),.var 46 ((EI 0 Aq Aq Aq Aq Aq Aq Aq Aq Aq Aq).map .d),.var 46 ((EI 0 Aq Aq Aq Aq Aq Aq Aq Aq Aq Aq).map .d)]⟩) ZbK [[],[(16,0)],[(17,1)],[],[(19,3)],[(20,4)],[],[],[(23,7)],[(24,8)],[(25,9)],[],[(18,2)],[(21,5)],[(9,11),(22,6)],[(26,10)]] [.av (.ptr 0 1),.av (.d (rwD T L)),.av (.d (Ba (AZ L))),.av (.ptr 1 1),.av (.d (Ba E)),.av (.d (eN E.length)),.av (.d (AQ (EI 0 Aq Aq Aq Aq Aq Aq Aq Aq Aq Aq))),.av (.ptr 0 2),.av (.d (Ov o V)),.av (.d (eI (AR V 4))),.av (.d (eN g)),.newS 46 14 (EI 0 Aq Aq Aq Aq Aq Aq Aq Aq Aq Aq),.av (.d (Ba (AZ L))),.av (.d (eN E.length)),.st 11,.av (.d (eN g))] ZbK ?_ ?_ ?_
 .refine Zhp ?_;refine Zgi ?_;refine Zgs ?_;exact Zga
 .exact ZkD
 refine Go ?_;refine AF (λv c=>v=0/\c=⟨[(3,.ptr 0 0),(4,.ptr 1 0),(5,.ptr 2 0),(6,.ptr 3 0),(7,.d (Ba (AZ L))),(8,.d (eN E.length)),(9,.ptr 4 0),(10,.d (eN g)),(11,.d (eI 0))],[.var 58 ((Hh T o B L V).map .d),.var 26 (([eI J,Ba E,F]:List D).map .d),.var 34 (([eI 3,G,eI n,eI d,eI r,W,Ba p,S,R]:List D).map .d),.var 46 ((EI 0 Aq Aq Aq Aq Aq Aq Aq Aq Aq Aq).map .d),.var 46 ((EI ((g+1:Nat):Int) (Ba (pQ (AZ L) 1 E.length)) Aq Aq Aq Aq Aq Aq Aq Aq Aq).map .d)]⟩) ?le ⟨rfl,rfl⟩ ?round
 case le=>exact Ac Zcy Zcu
 case round=>
  exact Zbw
theorem A1x(T o:Nat)(B:Nat)(L:List (Nat×List (Nat->Int)))(m:Tx L)(V:List Int)(C:I8 V)(I:V.length<=9223372036854775807)(J:Int)(E:List (List Tm))(Q:E.length<=12)(F G W S R:D)(n d r:Int)(p:List (List Tm))(b:p.length<=12):Abs prog 49 [AQ (Hh T o B L V),AQ [eI J,Ba E,F],AQ [eI 11,G,eI n,eI d,eI r,W,Ba p,S,R]] (AQ (EI 0 Aq Aq Aq (Fv (Gw (AZ L) E.length (1+p.length*(p.length+1)/2))) Aq Aq Aq Aq Aq Aq)):=by
 have t:=EA T L m
 have k:(AZ L).length<=6:=by
  exact ZhV
 have K:=CH o V C 4 ZbL I;have Y:=Cj C 4;obtain⟨g,A⟩:∃g:Nat,g=gN V:=⟨_,rfl⟩;have O:AR V 4%4=((g:Nat):Int):=by rw[A,gN];omega
 have M:g<=3:=by omega
 try rw[<-A]
 obtain⟨c,q⟩:∃c,c=p.length:=⟨_,rfl⟩;have N:c*(c+1)<=12*13:=YaX ZbG ZbG;rw[<-q];have X:=JM (AZ L) (1+c*(c+1)/2) E.length ZbG ZbG ZbG;refine Ab func49 λw=>?_;refine Zha ?_;refine FS (τ:=⟨[(3,.ptr 0 0),(4,.ptr 1 0),(5,.ptr 2 0),(6,.ptr 3 0),(7,.d (Ba (AZ L))),(8,.d (eN E.length)),(9,.ptr 4 0),(10,.d (eN g))],[.var 58 ((Hh T o B L V).map .d),.var 26 (([eI J,Ba E,F]:List D).map .d),.var 34 (([eI 11,G,eI n,eI d,eI r,W,Ba p,S,R]:List D).map .d),.var 46 ((EI 0 Aq Aq Aq Aq Aq Aq Aq Aq Aq Aq).map .d),.var 46 ((EI 0 Aq Aq Aq Aq Aq Aq Aq Aq Aq Aq).map .d)]⟩) ZbK [[],[(16,0)],[(17,1)],[],[(19,3)],[(20,4)],[],[],[(23,7)],[(24,8)],[(25,9)],[],[(18,2)],[(21,5)],[(9,11),(22,6)],[(26,10)]] [.av (.ptr 0 1),.av (.d (rwD T L)),.av (.d (Ba (AZ L))),.av (.ptr 1 1),.av (.d (Ba E)),.av (.d (eN E.length)),.av (.d (AQ (EI 0 Aq Aq Aq Aq Aq Aq Aq Aq Aq Aq))),.av (.ptr 0 2),.av (.d (Ov o V)),.av (.d (eI (AR V 4))),.av (.d (eN g)),.newS 46 14 (EI 0 Aq Aq Aq Aq Aq Aq Aq Aq Aq Aq),.av (.d (Ba (AZ L))),.av (.d (eN E.length)),.st 11,.av (.d (eN g))] ZbK ?_ ?_ ?_
 .refine Zhp ?_;refine Zgi ?_;refine HYSteps.cons (.q rfl (Eq (r:=((g:Nat):Int)) rfl rfl ((DF (AR V 4) (j:=2) ZbG).trans O))) ?_;exact Zhu
 .exact ZkD
 refine Go ?_;refine Wq (GV (r:=((c*(c+1):Nat):Int)) (ao rfl) (ao rfl) (AaM ZbG ZbG ZbG)) ?_;refine Wq (GU (r:=((c*(c+1)/2:Nat):Int)) (ao rfl) (ao rfl) ZbL (A8C _ ZbG)) ?_;refine Wq (DP (r:=((1+c*(c+1)/2:Nat):Int)) (ao rfl) (ao rfl) (A4r ZbG ZbG)) ?_;exact ZfC
theorem A1w(T o:Nat)(A:Nat)(L:List (Nat×List (Nat->Int)))(m:Tx L)(V:List Int)(B:I8 V)(I:V.length<=9223372036854775807)(G:Int)(E:List (List Tm))(Q:E.length<=12)(F C W S R:D)(n d r:Int)(p:List (List Tm))(b:p.length<=12):Abs prog 49 [AQ (Hh T o A L V),AQ [eI G,Ba E,F],AQ [eI 12,C,eI n,eI d,eI r,W,Ba p,S,R]] (AQ (EI 0 Aq (Ba (pQ (AZ L) 0 (gN V))) (Du (CS (gN V))) (Fv (Gw (AZ L) E.length (gN V))) Aq Aq Aq Aq Aq Aq)):=by
 have t:=EA T L m
 have k:(AZ L).length<=6:=by
  exact ZhV
 have J:=CH o V B 4 ZbL I;have Y:=Cj B 4;obtain⟨g,q⟩:∃g:Nat,g=gN V:=⟨_,rfl⟩;have M:AR V 4%4=((g:Nat):Int):=by rw[q,gN];omega
 have K:g<=3:=by omega
 try rw[<-q]
 have Z:=A0I (AZ L) g E.length K ZbG ZbG;refine Ab func49 λw=>?_;refine Zha ?_;refine FS (τ:=⟨[(3,.ptr 0 0),(4,.ptr 1 0),(5,.ptr 2 0),(6,.ptr 3 0),(7,.d (Ba (AZ L))),(8,.d (eN E.length)),(9,.ptr 4 0),(10,.d (eN g))],[.var 58 ((Hh T o A L V).map .d),.var 26 (([eI G,Ba E,F]:List D).map .d),.var 34 (([eI 12,C,eI n,eI d,eI r,W,Ba p,S,R]:List D).map .d),.var 46 ((EI 0 Aq Aq Aq Aq Aq Aq Aq Aq Aq Aq).map .d),.var 46 ((EI 0 Aq Aq Aq Aq Aq Aq Aq Aq Aq Aq).map .d)]⟩) ZbK [[],[(16,0)],[(17,1)],[],[(19,3)],[(20,4)],[],[],[(23,7)],[(24,8)],[(25,9)],[],[(18,2)],[(21,5)],[(9,11),(22,6)],[(26,10)]] [.av (.ptr 0 1),.av (.d (rwD T L)),.av (.d (Ba (AZ L))),.av (.ptr 1 1),.av (.d (Ba E)),.av (.d (eN E.length)),.av (.d (AQ (EI 0 Aq Aq Aq Aq Aq Aq Aq Aq Aq Aq))),.av (.ptr 0 2),.av (.d (Ov o V)),.av (.d (eI (AR V 4))),.av (.d (eN g)),.newS 46 14 (EI 0 Aq Aq Aq Aq Aq Aq Aq Aq Aq Aq),.av (.d (Ba (AZ L))),.av (.d (eN E.length)),.st 11,.av (.d (eN g))] ZbK ?_ ?_ ?_
 .refine Zhp ?_;refine Zhx ?_;refine HYSteps.cons (.q rfl (Eq (r:=((g:Nat):Int)) rfl rfl ((DF (AR V 4) (j:=2) ZbG).trans M))) ?_;exact Zhu
 .exact ZkD
 exact ZfC
theorem A46(T o:Nat)(A:Nat)(L:List (Nat×List (Nat->Int)))(m:Tx L)(V:List Int)(B:I8 V)(I:V.length<=9223372036854775807)(G:Int)(E:List (List Tm))(Q:E.length<=12)(F C W S R:D)(n d r:Int)(p:List (List Tm))(b:p.length<=12)(z:Int)(y:z≠1)(s:z≠3)(U:z≠7)(a:z≠8)(M:z≠9)(X:z≠10)(c:z≠11)(j:z≠12)(O:z≠13):Abs prog 49 [AQ (Hh T o A L V),AQ [eI G,Ba E,F],AQ [eI z,C,eI n,eI d,eI r,W,Ba p,S,R]] (AQ (EI 0 Aq (Ba (pQ (AZ L) 0 (gN V))) (Du (CS (gN V))) (Fv (Gw (AZ L) E.length (gN V))) (Fv (Gw (AZ L) (gN V) E.length)) (Fv (Gw (AZ L) (gN V) (gN V*(gN V-1)/2))) Aq Aq Aq Aq)):=by
 have t:=EA T L m
 have k:(AZ L).length<=6:=by
  exact ZhV
 have J:=CH o V B 4 ZbL I;have Y:=Cj B 4;obtain⟨g,q⟩:∃g:Nat,g=gN V:=⟨_,rfl⟩;have N:AR V 4%4=((g:Nat):Int):=by rw[q,gN];omega
 have K:g<=3:=by omega
 try rw[<-q]
 have Z:=MT (AZ L) g E.length K ZbG ZbG;refine Ab func49 λw=>?_;refine Zha ?_;refine FS (τ:=⟨[(3,.ptr 0 0),(4,.ptr 1 0),(5,.ptr 2 0),(6,.ptr 3 0),(7,.d (Ba (AZ L))),(8,.d (eN E.length)),(9,.ptr 4 0),(10,.d (eN g))],[.var 58 ((Hh T o A L V).map .d),.var 26 (([eI G,Ba E,F]:List D).map .d),.var 34 (([eI z,C,eI n,eI d,eI r,W,Ba p,S,R]:List D).map .d),.var 46 ((EI 0 Aq Aq Aq Aq Aq Aq Aq Aq Aq Aq).map .d),.var 46 ((EI 0 Aq Aq Aq Aq Aq Aq Aq Aq Aq Aq).map .d)]⟩) ZbK [[],[(16,0)],[(17,1)],[],[(19,3)],[(20,4)],[],[],[(23,7)],[(24,8)],[(25,9)],[],[(18,2)],[(21,5)],[(9,11),(22,6)],[(26,10)]] [.av (.ptr 0 1),.av (.d (rwD T L)),.av (.d (Ba (AZ L))),.av (.ptr 1 1),.av (.d (Ba E)),.av (.d (eN E.length)),.av (.d (AQ (EI 0 Aq Aq Aq Aq Aq Aq Aq Aq Aq Aq))),.av (.ptr 0 2),.av (.d (Ov o V)),.av (.d (eI (AR V 4))),.av (.d (eN g)),.newS 46 14 (EI 0 Aq Aq Aq Aq Aq Aq Aq Aq Aq Aq),.av (.d (Ba (AZ L))),.av (.d (eN E.length)),.st 11,.av (.d (eN g))] ZbK ?_ ?_ ?_
 .refine Zhp ?_;refine Zhx ?_;refine Zgs ?_;exact Zga
 .exact ZkD
 exact ZfC
def pP(Q:List (List Tm))(i:Nat):List Tm:=if Q.length=0 then[]else Q.getD (i%Q.length) default
abbrev Vl(Q:List (List Tm))(V:List Int)(k:Nat):List (List D):=(List.range k).map λi=>DB (Rat.divInt (AR V i) 5)++[BP (pP Q i)]
theorem Xu(Q:List (List Tm))(V:List Int)(k:Nat):Vl Q V (k+1)=Vl Q V k++[DB (Rat.divInt (AR V k) 5)++[BP (pP Q k)]]:=by simp[Vl,Ycv]
theorem A47(T o:Nat)(G:Nat)(L:List (Nat×List (Nat->Int)))(m:Tx L)(V:List Int)(J:I8 V)(I:V.length<=9223372036854775807)(M:Int)(E:List (List Tm))(Q:E.length<=12)(F K W S R:D)(n d r:Int)(p:List (List Tm))(a:p.length<=12)(z:Int)(i:z=9):Abs prog 49 [AQ (Hh T o G L V),AQ [eI M,Ba E,F],AQ [eI z,K,eI n,eI d,eI r,W,Ba p,S,R]] (AQ (EI 0 (Ba (pQ (AZ L) 1 E.length)) Aq Aq Aq Aq Aq Aq (slD 184 5 (Vl (AZ L) V (gN V))) Aq Aq)):=by
 have t:=EA T L m
 have q:(AZ L).length<=6:=by
  exact ZhV
 have X:=CH o V J 4 ZbL I;have Y:=Cj J 4;obtain⟨g,C⟩:∃g:Nat,g=gN V:=⟨_,rfl⟩;have e:AR V 4%4=((g:Nat):Int):=by rw[C,gN];omega
 have Z:g<=3:=by omega
 try rw[<-C]
 have f:=Ev (AZ L) 1 E.length ZbL ZbG ZbG;refine Ab func49 λw=>?_;refine Zha ?_;refine FS (τ:=⟨[(3,.ptr 0 0),(4,.ptr 1 0),(5,.ptr 2 0),(6,.ptr 3 0),(7,.d (Ba (AZ L))),(8,.d (eN E.length)),(9,.ptr 4 0),(10,.d (eN g))],[.var 58 ((Hh T o G L V).map .d),.var 26 (([eI M,Ba E,F]:List D).map .d),.var 34 (([eI z,K,eI n,eI d,eI r,W,Ba p,S,R]:List D).map .d),.var 46 ((EI 0 Aq Aq Aq Aq Aq Aq Aq Aq Aq Aq).map .d),.var 46 ((EI 0 Aq Aq Aq Aq Aq Aq Aq Aq Aq Aq).map .d)]⟩) ZbK [[],[(16,0)],[(17,1)],[],[(19,3)],[(20,4)],[],[],[(23,7)],[(24,8)],[(25,9)],[],[(18,2)],[(21,5)],[(9,11),(22,6)],[(26,10)]] [.av (.ptr 0 1),.av (.d (rwD T L)),.av (.d (Ba (AZ L))),.av (.ptr 1 1),.av (.d (Ba E)),.av (.d (eN E.length)),.av (.d (AQ (EI 0 Aq Aq Aq Aq Aq Aq Aq Aq Aq Aq))),.av (.ptr 0 2),.av (.d (Ov o V)),.av (.d (eI (AR V 4))),.av (.d (eN g)),.newS 46 14 (EI 0 Aq Aq Aq Aq Aq Aq Aq Aq Aq Aq),.av (.d (Ba (AZ L))),.av (.d (eN E.length)),.st 11,.av (.d (eN g))] ZbK ?_ ?_ ?_
 .refine Zhp ?_;refine ZfV ?_;exact Zhv
 .exact ZkD
 refine Yn<|Ah<|Y1 ?_;refine Wq AC ?_;refine Wq Ao ?_;refine Y0<|AWp.block<|Ah<|Y1 ?_;refine Wq AO ?_;refine Wa<|Y0<|Cf<|Y1 ?_;refine Wq AO ?_;refine Wa<|Y0<|Cf<|Y1 ?_;refine Wq Bc ?_;refine Wa<|Y0<|Ct<|Ys<|Ct<|Y1<|Wm<|Wm ?_;refine Wq (AJ (f)) ?_;refine Wq AC ?_;refine De (ao rfl) (ao rfl) rfl (Aa rfl) ZbX rfl rfl ?_;refine Y0<|Ah<|Y1 ?_;refine Wq AC ?_;refine Wq Ao ?_;refine Wq AO ?_;refine Y0<|Cf<|Ys<|Y1<|Wa<|Y0<|AWp.block ?_
 exact Zbx
theorem A1y(T o:Nat)(G:Nat)(L:List (Nat×List (Nat->Int)))(m:Tx L)(V:List Int)(J:I8 V)(I:V.length<=9223372036854775807)(M:Int)(E:List (List Tm))(Q:E.length<=12)(F K W S R:D)(n d r:Int)(p:List (List Tm))(a:p.length<=12)(z:Int)(i:z=10):Abs prog 49 [AQ (Hh T o G L V),AQ [eI M,Ba E,F],AQ [eI z,K,eI n,eI d,eI r,W,Ba p,S,R]] (AQ (EI 0 (Ba (pQ (AZ L) 1 E.length)) Aq Aq Aq Aq Aq Aq (slD 184 5 (Vl (AZ L) V (gN V))) Aq Aq)):=by
 have t:=EA T L m
 have q:(AZ L).length<=6:=by
  exact ZhV
 have X:=CH o V J 4 ZbL I;have Y:=Cj J 4;obtain⟨g,C⟩:∃g:Nat,g=gN V:=⟨_,rfl⟩;have e:AR V 4%4=((g:Nat):Int):=by rw[C,gN];omega
 have Z:g<=3:=by omega
 try rw[<-C]
 have f:=Ev (AZ L) 1 E.length ZbL ZbG ZbG;refine Ab func49 λw=>?_;refine Zha ?_;refine FS (τ:=⟨[(3,.ptr 0 0),(4,.ptr 1 0),(5,.ptr 2 0),(6,.ptr 3 0),(7,.d (Ba (AZ L))),(8,.d (eN E.length)),(9,.ptr 4 0),(10,.d (eN g))],[.var 58 ((Hh T o G L V).map .d),.var 26 (([eI M,Ba E,F]:List D).map .d),.var 34 (([eI z,K,eI n,eI d,eI r,W,Ba p,S,R]:List D).map .d),.var 46 ((EI 0 Aq Aq Aq Aq Aq Aq Aq Aq Aq Aq).map .d),.var 46 ((EI 0 Aq Aq Aq Aq Aq Aq Aq Aq Aq Aq).map .d)]⟩) ZbK [[],[(16,0)],[(17,1)],[],[(19,3)],[(20,4)],[],[],[(23,7)],[(24,8)],[(25,9)],[],[(18,2)],[(21,5)],[(9,11),(22,6)],[(26,10)]] [.av (.ptr 0 1),.av (.d (rwD T L)),.av (.d (Ba (AZ L))),.av (.ptr 1 1),.av (.d (Ba E)),.av (.d (eN E.length)),.av (.d (AQ (EI 0 Aq Aq Aq Aq Aq Aq Aq Aq Aq Aq))),.av (.ptr 0 2),.av (.d (Ov o V)),.av (.d (eI (AR V 4))),.av (.d (eN g)),.newS 46 14 (EI 0 Aq Aq Aq Aq Aq Aq Aq Aq Aq Aq),.av (.d (Ba (AZ L))),.av (.d (eN E.length)),.st 11,.av (.d (eN g))] ZbK ?_ ?_ ?_
 .refine Zhp ?_;refine ZfV ?_;exact Zhv
 .exact ZkD
 refine Yn<|Ah<|Y1 ?_;refine Wq AC ?_;refine Wq Ao ?_;refine Y0<|AWp.block<|Ah<|Y1 ?_;refine Wq AO ?_;refine Wa<|Y0<|Cf<|Y1 ?_;refine Wq AO ?_;refine Wa<|Y0<|Cf<|Y1 ?_;refine Wq AO ?_;refine Wa<|Y0<|Cf<|AWp.region ?_;refine Wq Bc ?_;refine Wa<|Y0<|Ct<|Y1<|Wm<|Wm ?_;refine Wq (AJ (f)) ?_;refine Wq AC ?_;refine De (ao rfl) (ao rfl) rfl (Aa rfl) ZbX rfl rfl ?_;refine Y0<|Ah<|Y1 ?_;refine Wq AC ?_;refine Wq Ao ?_;refine Wq AO ?_;refine Y0<|Cf<|Ys<|Y1<|Wa<|Y0<|AWp.block ?_
 exact Zbx
abbrev ctR(g o c q s r K A a:D):List D:=[eI 0,Aq,g,o,c,q,s,eI 1,r,i0D,i0D,i0D,i0D,i0D,i0D,K,Aq,A,Aq,Aq,Aq,Aq,Aq,Aq,a,Aq,Aq,Aq]
abbrev Wu(V:List Int)(k:Nat):List (List D):=(List.range k).map λi=>Jk (Eh V i 0)
theorem YT(V:List Int)(k:Nat):Wu V (k+1)=Wu V k++[Jk (Eh V k 0)]:=by simp[Wu,Ycv]
theorem A49(T o:Nat)(G:Nat)(L:List (Nat×List (Nat->Int)))(m:Tx L)(V:List Int)(J:I8 V)(I:V.length<=9223372036854775807)(M:Int)(E:List (List Tm))(Q:E.length<=12)(F K W S R:D)(n d r:Int)(p:List (List Tm))(e:p.length<=12)(z:Int)(i:z=7):Abs prog 49 [AQ (Hh T o G L V),AQ [eI M,Ba E,F],AQ [eI z,K,eI n,eI d,eI r,W,Ba p,S,R]] (AQ (ctR (Ba (pQ (AZ L) 0 (gN V))) (Du (CS (gN V))) (Fv (Gw (AZ L) E.length (gN V))) (Fv (Gw (AZ L) (gN V) E.length)) (Fv (Gw (AZ L) (gN V) ((gN V)*((gN V)-1)/2))) (eI (AR V 5)) (QH (KA V 3)) (QH (KA V 2)) (slD 129 8 (Wu V (gN V))))):=by
 have t:=EA T L m
 have q:(AZ L).length<=6:=by
  exact ZhV
 have X:=CH o V J 4 ZbL I;have Y:=Cj J 4;obtain⟨g,C⟩:∃g:Nat,g=gN V:=⟨_,rfl⟩;have f:AR V 4%4=((g:Nat):Int):=by rw[C,gN];omega
 have a:g<=3:=by omega
 try rw[<-C]
 have j:=MT (AZ L) g E.length a ZbG ZbG;have h:=CH o V J 5 ZbL I;have l:=Mb o V J 3 ZbL I;have N:=Mb o V J 2 ZbL I;refine Ab func49 λw=>?_;refine Zha ?_;refine FS (τ:=⟨[(3,.ptr 0 0),(4,.ptr 1 0),(5,.ptr 2 0),(6,.ptr 3 0),(7,.d (Ba (AZ L))),(8,.d (eN E.length)),(9,.ptr 4 0),(10,.d (eN g))],[.var 58 ((Hh T o G L V).map .d),.var 26 (([eI M,Ba E,F]:List D).map .d),.var 34 (([eI z,K,eI n,eI d,eI r,W,Ba p,S,R]:List D).map .d),.var 46 ((EI 0 Aq Aq Aq Aq Aq Aq Aq Aq Aq Aq).map .d),.var 46 ((EI 0 Aq Aq Aq Aq Aq Aq Aq Aq Aq Aq).map .d)]⟩) ZbK [[],[(16,0)],[(17,1)],[],[(19,3)],[(20,4)],[],[],[(23,7)],[(24,8)],[(25,9)],[],[(18,2)],[(21,5)],[(9,11),(22,6)],[(26,10)]] [.av (.ptr 0 1),.av (.d (rwD T L)),.av (.d (Ba (AZ L))),.av (.ptr 1 1),.av (.d (Ba E)),.av (.d (eN E.length)),.av (.d (AQ (EI 0 Aq Aq Aq Aq Aq Aq Aq Aq Aq Aq))),.av (.ptr 0 2),.av (.d (Ov o V)),.av (.d (eI (AR V 4))),.av (.d (eN g)),.newS 46 14 (EI 0 Aq Aq Aq Aq Aq Aq Aq Aq Aq Aq),.av (.d (Ba (AZ L))),.av (.d (eN E.length)),.st 11,.av (.d (eN g))] ZbK ?_ ?_ ?_
 .refine Zhp ?_;refine ZfV ?_;exact Zhw
 .exact ZkD
 refine Yn<|Ah<|Y1 ?_;refine Wq AC ?_;refine Wq Ao ?_;refine Y0<|AWp.block<|Ah<|Y1 ?_;refine Wq AO ?_;refine Wa<|Y0<|Cf<|Y1 ?_;refine Wq AO ?_;refine Wa<|Y0<|Cf<|Y1 ?_;refine Wq AO ?_;refine Wa<|Y0<|Cf<|AWp.region ?_;refine Wq AO ?_;refine Wa<|Y0<|Cf<|Y1 ?_;refine Wq AO ?_;refine Wa<|Y0<|Cf<|Y1 ?_;refine Wq AO ?_;refine Wa<|Y0<|Cf<|Y1 ?_;refine Wq AO ?_;refine Wa<|Y0<|Cf<|AWp.region ?_;refine Wq AD ?_;refine Wm<|Wm<|Wm ?_;refine Wq (AJ (j)) ?_;refine Sf ?_;refine AWl.nil<|Bi<|Yn<|Ah<|Y1 ?_;refine Wq AC ?_;refine Wq Ao ?_;refine Wq Bc ?_;refine Wm ?_;refine Ws ?_;refine Ws ?_;refine Ws ?_;refine Wq Ck ?_;refine Y0<|Ct<|Y1 ?_;refine Wq AC ?_;refine Wq Ao ?_;refine Wq (AJ (h)) ?_;(refine Df rfl rfl ?_;(refine LA (Aa rfl) (Aa rfl) rfl rfl ?_;(repeat ((first | refine⟨_,Az (ao rfl),?_⟩ | refine⟨_,Po rfl,?_⟩);refine⟨_,rfl,?_⟩));refine⟨_,rfl,?_⟩));refine Wq AC ?_;refine Wq AC ?_;refine Oq (ao rfl) (ao rfl) rfl (Aa rfl) rfl rfl rfl ?_;refine Y0<|Y1 ?_;refine Wq AC ?_;refine Wq Ao ?_;refine Wq (AJ (l)) ?_;refine Wq AC ?_;refine Wq AC ?_;refine De (ao rfl) (ao rfl) rfl (Aa rfl) ZbX rfl rfl ?_;refine Y0<|Y1 ?_;refine Wq AC ?_;refine Wq Ao ?_;refine Wq (AJ (N)) ?_;refine Wq AC ?_;refine Wq AC ?_;refine Wq WE ?_;refine De (ao rfl) (ao rfl) rfl (Aa rfl) ZbX rfl rfl ?_;refine Y0<|Y1<|Wa<|Y0<|AWp.block ?_
 exact Zby
theorem A48(T o:Nat)(G:Nat)(L:List (Nat×List (Nat->Int)))(m:Tx L)(V:List Int)(J:I8 V)(I:V.length<=9223372036854775807)(M:Int)(E:List (List Tm))(Q:E.length<=12)(F K W S R:D)(n d r:Int)(p:List (List Tm))(e:p.length<=12)(z:Int)(i:z=8):Abs prog 49 [AQ (Hh T o G L V),AQ [eI M,Ba E,F],AQ [eI z,K,eI n,eI d,eI r,W,Ba p,S,R]] (AQ (ctR (Ba (pQ (AZ L) 0 (gN V))) (Du (CS (gN V))) (Fv (Gw (AZ L) E.length (gN V))) (Fv (Gw (AZ L) (gN V) E.length)) (Fv (Gw (AZ L) (gN V) ((gN V)*((gN V)-1)/2))) (eI (AR V 5)) (QH (KA V 3)) (QH (KA V 2)) (slD 129 8 (Wu V (gN V))))):=by
 have t:=EA T L m
 have q:(AZ L).length<=6:=by
  exact ZhV
 have X:=CH o V J 4 ZbL I;have Y:=Cj J 4;obtain⟨g,C⟩:∃g:Nat,g=gN V:=⟨_,rfl⟩;have f:AR V 4%4=((g:Nat):Int):=by rw[C,gN];omega
 have a:g<=3:=by omega
 try rw[<-C]
 have j:=MT (AZ L) g E.length a ZbG ZbG;have h:=CH o V J 5 ZbL I;have l:=Mb o V J 3 ZbL I;have N:=Mb o V J 2 ZbL I;refine Ab func49 λw=>?_;refine Zha ?_;refine FS (τ:=⟨[(3,.ptr 0 0),(4,.ptr 1 0),(5,.ptr 2 0),(6,.ptr 3 0),(7,.d (Ba (AZ L))),(8,.d (eN E.length)),(9,.ptr 4 0),(10,.d (eN g))],[.var 58 ((Hh T o G L V).map .d),.var 26 (([eI M,Ba E,F]:List D).map .d),.var 34 (([eI z,K,eI n,eI d,eI r,W,Ba p,S,R]:List D).map .d),.var 46 ((EI 0 Aq Aq Aq Aq Aq Aq Aq Aq Aq Aq).map .d),.var 46 ((EI 0 Aq Aq Aq Aq Aq Aq Aq Aq Aq Aq).map .d)]⟩) ZbK [[],[(16,0)],[(17,1)],[],[(19,3)],[(20,4)],[],[],[(23,7)],[(24,8)],[(25,9)],[],[(18,2)],[(21,5)],[(9,11),(22,6)],[(26,10)]] [.av (.ptr 0 1),.av (.d (rwD T L)),.av (.d (Ba (AZ L))),.av (.ptr 1 1),.av (.d (Ba E)),.av (.d (eN E.length)),.av (.d (AQ (EI 0 Aq Aq Aq Aq Aq Aq Aq Aq Aq Aq))),.av (.ptr 0 2),.av (.d (Ov o V)),.av (.d (eI (AR V 4))),.av (.d (eN g)),.newS 46 14 (EI 0 Aq Aq Aq Aq Aq Aq Aq Aq Aq Aq),.av (.d (Ba (AZ L))),.av (.d (eN E.length)),.st 11,.av (.d (eN g))] ZbK ?_ ?_ ?_
 .refine Zhp ?_;refine ZfV ?_;exact Zhw
 .exact ZkD
 refine Yn<|Ah<|Y1 ?_;refine Wq AC ?_;refine Wq Ao ?_;refine Y0<|AWp.block<|Ah<|Y1 ?_;refine Wq AO ?_;refine Wa<|Y0<|Cf<|Y1 ?_;refine Wq AO ?_;refine Wa<|Y0<|Cf<|Y1 ?_;refine Wq AO ?_;refine Wa<|Y0<|Cf<|AWp.region ?_;refine Wq AO ?_;refine Wa<|Y0<|Cf<|Y1 ?_;refine Wq AO ?_;refine Wa<|Y0<|Cf<|Y1 ?_;refine Wq AO ?_;refine Wa<|Y0<|Cf<|Y1 ?_;refine Wq AO ?_;refine Wa<|Y0<|Cf<|AWp.region ?_;refine Wq AD ?_;refine Wm<|Wm<|Wm ?_;refine Wq (AJ (j)) ?_;refine Sf ?_;refine AWl.nil<|Bi<|Yn<|Ah<|Y1 ?_;refine Wq AC ?_;refine Wq Ao ?_;refine Wq AO ?_;refine Wm ?_;refine Wg AC ?_;refine Wg Ao ?_;refine Wg Bc ?_;refine Wq BT ?_;refine Y0<|Ct<|Y1 ?_;refine Wq AC ?_;refine Wq Ao ?_;refine Wq (AJ (h)) ?_;(refine Df rfl rfl ?_;(refine LA (Aa rfl) (Aa rfl) rfl rfl ?_;(repeat ((first | refine⟨_,Az (ao rfl),?_⟩ | refine⟨_,Po rfl,?_⟩);refine⟨_,rfl,?_⟩));refine⟨_,rfl,?_⟩));refine Wq AC ?_;refine Wq AC ?_;refine Oq (ao rfl) (ao rfl) rfl (Aa rfl) rfl rfl rfl ?_;refine Y0<|Y1 ?_;refine Wq AC ?_;refine Wq Ao ?_;refine Wq (AJ (l)) ?_;refine Wq AC ?_;refine Wq AC ?_;refine De (ao rfl) (ao rfl) rfl (Aa rfl) ZbX rfl rfl ?_;refine Y0<|Y1 ?_;refine Wq AC ?_;refine Wq Ao ?_;refine Wq (AJ (N)) ?_;refine Wq AC ?_;refine Wq AC ?_;refine Wq WE ?_;refine De (ao rfl) (ao rfl) rfl (Aa rfl) ZbX rfl rfl ?_;refine Y0<|Y1<|Wa<|Y0<|AWp.block ?_
 exact Zby
abbrev zQ:RQ:=LK ((0:Int):Rat)
abbrev pxE(V:List Int)(k:Nat):List D:=GK (ZS (λi=>Hl (if i<8 then zQ else default)) 0 (DB ((AR V k:Int):Rat)))
abbrev pxR(V:List Int)(k:Nat):List (List D):=(List.range k).map (pxE V)
theorem A56(V:List Int)(k:Nat):pxR V (k+1)=pxR V k++[pxE V k]:=by simp[pxR,Ycv]
abbrev bxR(V:List Int)(k:Nat):List (List D):=(List.range k).map λi=>Dv (Eh V (i+1))
theorem A66(V:List Int)(k:Nat):bxR V (k+1)=bxR V k++[Dv (Eh V (k+1))]:=by simp[bxR,Ycv]
theorem A1v(T o:Nat)(J:Nat)(L:List (Nat×List (Nat->Int)))(m:Tx L)(V:List Int)(K:I8 V)(I:V.length<=9223372036854775807)(X:Int)(E:List (List Tm))(Q:E.length<=12)(F N M S R:D)(n d r:Int)(p:List (List Tm))(h:p.length<=12):Abs prog 49 [AQ (Hh T o J L V),AQ [eI X,Ba E,F],AQ [eI 13,N,eI n,eI d,eI r,M,Ba p,S,R]] (AQ (EI 0 Aq Aq Aq Aq Aq Aq Aq Aq (slD 187 32 (pxR V (gN V))) (slD 131 64 (bxR V (gN V))))):=by
 have t:=EA T L m
 have q:(AZ L).length<=6:=by
  exact ZhV
 have a:=CH o V K 4 ZbL I;have Y:=Cj K 4;obtain⟨g,G⟩:∃g:Nat,g=gN V:=⟨_,rfl⟩;have s:AR V 4%4=((g:Nat):Int):=by rw[G,gN];omega
 have f:g<=3:=by omega
 try rw[<-G]
 have z:=EW 0 ZbL ZbL;refine Ab func49 λw=>?_;refine Zha ?_;refine FS (τ:=⟨[(3,.ptr 0 0),(4,.ptr 1 0),(5,.ptr 2 0),(6,.ptr 3 0),(7,.d (Ba (AZ L))),(8,.d (eN E.length)),(9,.ptr 4 0),(10,.d (eN g))],[.var 58 ((Hh T o J L V).map .d),.var 26 (([eI X,Ba E,F]:List D).map .d),.var 34 (([eI 13,N,eI n,eI d,eI r,M,Ba p,S,R]:List D).map .d),.var 46 ((EI 0 Aq Aq Aq Aq Aq Aq Aq Aq Aq Aq).map .d),.var 46 ((EI 0 Aq Aq Aq Aq Aq Aq Aq Aq Aq Aq).map .d)]⟩) ZbK [[],[(16,0)],[(17,1)],[],[(19,3)],[(20,4)],[],[],[(23,7)],[(24,8)],[(25,9)],[],[(18,2)],[(21,5)],[(9,11),(22,6)],[(26,10)]] [.av (.ptr 0 1),.av (.d (rwD T L)),.av (.d (Ba (AZ L))),.av (.ptr 1 1),.av (.d (Ba E)),.av (.d (eN E.length)),.av (.d (AQ (EI 0 Aq Aq Aq Aq Aq Aq Aq Aq Aq Aq))),.av (.ptr 0 2),.av (.d (Ov o V)),.av (.d (eI (AR V 4))),.av (.d (eN g)),.newS 46 14 (EI 0 Aq Aq Aq Aq Aq Aq Aq Aq Aq Aq),.av (.d (Ba (AZ L))),.av (.d (eN E.length)),.st 11,.av (.d (eN g))] ZbK ?_ ?_ ?_
 .refine Zhp ?_;refine Zft ?_;refine HYSteps.cons (.q rfl (BQ rfl a (ArgsLe.cons rfl (D.le.refl _) (ArgsLe.cons rfl (D.le.refl _) ArgsLe.nil)))) ?_;refine HYSteps.cons (.q rfl (Eq (r:=((g:Nat):Int)) rfl rfl ((DF (AR V 4) (j:=2) ZbG).trans s))) ?_;exact Zhu
 .exact ZkD
 refine Yn<|Ah<|Y1 ?_;refine Wq AC ?_;refine Wq Ao ?_;refine Y0<|AWp.block<|Ah<|Y1 ?_;refine Wq AO ?_;refine Wa<|Y0<|Cf<|Y1 ?_;refine Wq AO ?_;refine Wa<|Y0<|Cf<|Y1 ?_;refine Wq AO ?_;refine Wa<|Y0<|Cf<|AWp.region ?_;refine Wq AO ?_;refine Wa<|Y0<|Cf<|Y1 ?_;refine Wq AO ?_;refine Wa<|Y0<|Cf<|Y1 ?_;refine Wq AO ?_;refine Wa<|Y0<|Cf<|Y1 ?_;refine Wq Bc ?_;refine Wa<|Y0<|Ct<|Y1<|Wa<|Y0<|AWp.block ?_
 refine Fd 187 32 ZbL ZbL rfl ?_;refine Fd 131 64 ZbL ZbL rfl ?_;refine AF (λC c=>∃k v u,k<=g/\C=g-k/\c=⟨[(3,.ptr 0 0),(4,.ptr 1 0),(5,.ptr 2 0),(6,.ptr 3 0),(7,.d (Ba (AZ L))),(8,.d (eN E.length)),(9,.ptr 4 0),(10,.d (eN g)),(12,.d (eN k))],[.var 58 ((Hh T o J L V).map .d),.var 26 (([eI X,Ba E,F]:List D).map .d),.var 34 (([eI 13,N,eI n,eI d,eI r,M,Ba p,S,R]:List D).map .d),.var 46 ((EI 0 Aq Aq Aq Aq Aq Aq Aq Aq Aq Aq).map .d),.var 46 ((EI 0 Aq Aq Aq Aq Aq Aq Aq Aq (ex v) (ex u)).map .d),.obj (Mc v 187 32 (pxR V k)),.obj (Mc u 131 64 (bxR V k))]⟩) ?le ⟨0,.slice none 0 0,.slice none 0 0,by omega,rfl,rfl⟩ ?round
 case le=>exact Ac Zcy (by exact Yv<|Yv<|Yv<|Yv<|Yv<|HpLe.cons (OwLe.obj rfl)<|HpLe.cons (OwLe.obj rfl)<|HpLe.nil)
 case round=>
  rintro C _ ⟨k,v,u,B,rfl,rfl⟩;by_cases O:k<g
  .have e:=Lr o V K I (k+1) ZbG
   have Z:=CH o V K k ZbG I;have A:=Cj K k;have y:=EW (AR V k) ZbG ZbG;refine Go ?_;refine AF (λC c=>∃j,j<=8/\C=8-j/\c=⟨[(3,.ptr 0 0),(4,.ptr 1 0),(5,.ptr 2 0),(6,.ptr 3 0),(7,.d (Ba (AZ L))),(8,.d (eN E.length)),(9,.ptr 4 0),(10,.d (eN g)),(12,.d (eN k)),(13,.ptr 7 0),(14,.d (eN j))],[.var 58 ((Hh T o J L V).map .d),.var 26 (([eI X,Ba E,F]:List D).map .d),.var 34 (([eI 13,N,eI n,eI d,eI r,M,Ba p,S,R]:List D).map .d),.var 46 ((EI 0 Aq Aq Aq Aq Aq Aq Aq Aq Aq Aq).map .d),.var 46 ((EI 0 Aq Aq Aq Aq Aq Aq Aq Aq (ex v) (ex u)).map .d),.obj (Mc v 187 32 (pxR V k)),.obj (Mc u 131 64 (bxR V k)),.var 187 ((GK λi=>Hl (if i<j then zQ else default)).map .d)]⟩) ?le2 ⟨0,by omega,rfl,rfl⟩ ?round2
   case le2=>exact Ac Zex (by exact Yv<|Yv<|Yv<|Yv<|Yv<|HpLe.cons (OwLe.obj rfl)<|HpLe.cons (OwLe.obj rfl)<|HpLe.cons (Hv Rf)<|HpLe.nil)
   case round2=>
    rintro C _ ⟨j,W,rfl,rfl⟩;by_cases l:j<8
    .refine Go ?_;refine Mm (ao rfl) (ao rfl) rfl (Aa rfl) rfl (Hr (λ_=>rfl) rfl l) rfl ?_;refine Go ?_
     refine Ai (8-(j+1)) ZbG ⟨j+1,by omega,rfl,rfl⟩ ?_;exact Ac Zex (by apply Yv;apply Yv;apply Yv;apply Yv;apply Yv;refine HpLe.cons (OwLe.obj rfl) ?_;refine HpLe.cons (OwLe.obj rfl) ?_;refine HpLe.cons (OwLe.varD (A0j (c:=Hl) (x:=λ_=>zQ) (d:=λ_=>default))) ?_;exact HpLe.nil)
    .obtain rfl:j=8:=by omega
     refine Ah<|Y1<|Wm ?_;refine Wq AO ?_;refine Y0<|Cf<|Cg<|BD<|BS<|BI<|Yn<|Y1 ?_;refine Wq AC ?_;refine Wq Ao ?_;refine Wm ?_;refine Wq (AJ (Z)) ?_;refine Wq (AJ (y)) ?_;refine Wq WE ?_;refine Mm (ao rfl) (ao rfl) rfl (Aa rfl) rfl (Hr (i:=0) (v:=DB ((AR V k:Int):Rat)) (λ_=>rfl) rfl ZbL) rfl ?_;apply Y0
     refine A1E 4 13 15 [14,13,12,11,10,9,8,7,6,5,4,3,2,1,0] [12,11,10,9,8,7,6,5,4,3,2,1,0] [.ptr 4 26,.d (ex v),.d (AQ (pxE V k)),.d (slD 187 32 [pxE V k]),.own 5,.ptr 4 27,.d (ex u),.ptr 0 2,.d (Ov o V),.d (eN k),.d (eN (k+1)),.d (AQ (Dv (Eh V (k+1)))),.d (slD 131 64 [Dv (Eh V (k+1))]),.own 6,.ptr 4 26] [[],[(121,0)],[],[(123,2)],[(122,1),(124,3)],[],[(126,5)],[],[(128,7)],[],[(130,9)],[(129,8),(131,10)],[(132,11)],[(127,6),(133,12)],[]] [(3,.ptr 0 0),(4,.ptr 1 0),(5,.ptr 2 0),(6,.ptr 3 0),(7,.d (Ba (AZ L))),(8,.d (eN E.length)),(9,.ptr 4 0),(10,.d (eN g)),(12,.d (eN k)),(13,.ptr 7 0)] [(125,.own 5),(134,.own 6),(135,.ptr 4 26),(3,.ptr 0 0),(4,.ptr 1 0),(5,.ptr 2 0),(6,.ptr 3 0),(7,.d (Ba (AZ L))),(8,.d (eN E.length)),(9,.ptr 4 0),(10,.d (eN g)),(12,.d (eN k))] [.var 58 ((Hh T o J L V).map .d),.var 26 (([eI X,Ba E,F]:List D).map .d),.var 34 (([eI 13,N,eI n,eI d,eI r,M,Ba p,S,R]:List D).map .d),.var 46 ((EI 0 Aq Aq Aq Aq Aq Aq Aq Aq Aq Aq).map .d),.var 46 ((EI 0 Aq Aq Aq Aq Aq Aq Aq Aq (ex v) (ex u)).map .d),.row 187 32 (pxR V k++[pxE V k]),.obj (Mc u 131 64 (bxR V k)),.var 187 ((pxE V k).map .d)] [.var 58 ((Hh T o J L V).map .d),.var 26 (([eI X,Ba E,F]:List D).map .d),.var 34 (([eI 13,N,eI n,eI d,eI r,M,Ba p,S,R]:List D).map .d),.var 46 ((EI 0 Aq Aq Aq Aq Aq Aq Aq Aq Aq Aq).map .d),.var 46 ((EI 0 Aq Aq Aq Aq Aq Aq Aq Aq (ex v) (ex u)).map .d),.row 187 32 (pxR V k++[pxE V k]),.row 131 64 (bxR V k++[Dv (Eh V (k+1))]),.var 187 ((pxE V k).map .d)] ZbK ⟨rfl,rfl,rfl,rfl,rfl,rfl,rfl,rfl,rfl,rfl,trivial⟩ rfl rfl rfl rfl ZbK ZbK ZbK ZbK (by refine DSteps2.q rfl rfl ZbN ZbN ZbN ?_;refine DSteps2.q rfl rfl ZbN ZbN ZbN ?_;refine DSteps2.q rfl rfl ZbN ZbN ZbN ?_;refine DSteps2.q rfl rfl (Cc (ah rfl) (Aa rfl) (Aa rfl) rfl rfl rfl rfl rfl) (Cc (ah rfl) (Aa rfl) (Aa rfl) rfl rfl rfl rfl rfl) (Cc (ah rfl) (Aa rfl) (Aa rfl) rfl rfl rfl rfl rfl) ?_;refine DSteps2.k rfl (UZ (DTurn.rows (id:=5) rfl rfl rfl (Aa rfl) (Aa rfl) rfl rfl rfl rfl ZiB ZiB) rfl rfl) ?_;refine DSteps2.q rfl rfl ZbN ZbN ZbN ?_;refine DSteps2.q rfl rfl ZbN ZbN ZbN ?_;refine DSteps2.q rfl rfl ZbN ZbN ZbN ?_;refine DSteps2.q rfl rfl ZbN ZbN ZbN ?_;refine DSteps2.q rfl rfl ZbN ZbN ZbN ?_;refine DSteps2.q rfl rfl (Ij (ah rfl) (ah rfl) ZbG) (Ij (ah rfl) (ah rfl) ZbG) (Ij (ah rfl) (ah rfl) ZbG) ?_;refine DSteps2.q rfl rfl (BQ (ah rfl) e (ArgsLe.cons rfl (D.le.refl _) (ArgsLe.cons rfl (D.le.refl _) ArgsLe.nil))) (BQ (ah rfl) e (ArgsLe.cons rfl (D.le.refl _) (ArgsLe.cons rfl (D.le.refl _) ArgsLe.nil))) (BQ (ah rfl) e (ArgsLe.cons rfl (D.le.refl _) (ArgsLe.cons rfl (D.le.refl _) ArgsLe.nil))) ?_;refine DSteps2.q rfl rfl (Cc (ah rfl) (Aa rfl) (Aa rfl) rfl rfl rfl rfl rfl) (Cc (ah rfl) (Aa rfl) (Aa rfl) rfl rfl rfl rfl rfl) (Cc (ah rfl) (Aa rfl) (Aa rfl) rfl rfl rfl rfl rfl) ?_;refine DSteps2.l rfl rfl (UZ (DTurn.rows (id:=6) rfl rfl rfl (Aa rfl) (Aa rfl) rfl rfl rfl rfl ZiB ZiB) rfl rfl) ?_;refine DSteps2.q rfl rfl ZbN ZbN ZbN ?_;exact DSteps2.nil) ZbK ⟨rfl,rfl,rfl,rfl,rfl,rfl,rfl,rfl,rfl,rfl,rfl,rfl,trivial⟩ ?_;refine Ep (ao rfl) (ao rfl) rfl (Aa rfl) (One.own rfl) rfl rfl ?_;refine Wq AC ?_;refine Ep (ao rfl) (ao rfl) rfl (Aa rfl) (One.own rfl) rfl rfl ?_;refine AWl.nil<|Bi<|Yn ?_;(refine FR 5 187 32 (pxR V (k+1)) (by rw[A56];rfl) λb=>?_);(refine FR 6 131 64 (bxR V (k+1)) (by rw[A66];rfl) λx=>?_);refine AWp.region<|Wm ?_;refine Wq CJ ?_;refine Wa<|AWl.nil ?_
     skip
     refine Ai (g-(k+1)) ZbG ⟨k+1,b,x,by omega,rfl,rfl⟩ ?_;exact Ac Zcy (by exact HpLe.cons (Ad rfl)<|HpLe.cons (Ad rfl)<|HpLe.cons (Ad rfl)<|HpLe.cons (Ad rfl)<|HpLe.cons (Ad rfl)<|HpLe.cons (OwLe.obj rfl)<|HpLe.cons (OwLe.obj rfl)<|HpLe.nil)
  .obtain rfl:k=g:=by omega
   refine DV (σ':=⟨[(3,.ptr 0 0),(4,.ptr 1 0),(5,.ptr 2 0),(6,.ptr 3 0),(7,.d (Ba (AZ L))),(8,.d (eN E.length)),(9,.ptr 4 0),(10,.d (eN k)),(12,.d (eN k))],[.var 58 ((Hh T o J L V).map .d),.var 26 (([eI X,Ba E,F]:List D).map .d),.var 34 (([eI 13,N,eI n,eI d,eI r,M,Ba p,S,R]:List D).map .d),.var 46 ((EI 0 Aq Aq Aq Aq Aq Aq Aq Aq Aq Aq).map .d),.var 46 ((EI 0 Aq Aq Aq Aq Aq Aq Aq Aq (slD 187 32 (pxR V k)) (slD 131 64 (bxR V k))).map .d),.dead,.dead]⟩) ?wk ?_
   case wk=>exact Ac ZcC (HpLe.cons (OwLe.varD rfl) (HpLe.cons (OwLe.varD rfl) (HpLe.cons (OwLe.varD rfl) (HpLe.cons (OwLe.varD rfl) (HpLe.cons (OwLe.cells (by repeat (first | exact CellsLe.nil | refine CellsLe.cons (AVle.rows (id:=5) rfl) ?_ | refine CellsLe.cons (AVle.rows (id:=6) rfl) ?_ | refine CellsLe.cons (AVle.d rfl) ?_))) (HpLe.cons OwLe.dead (HpLe.cons OwLe.dead HpLe.nil)))))))
   exact ZfC
theorem A6s(kind:Int)(p:List RTm)(o:List (Nat->Int))(B:IW kind)(G:PoW p)(m:Fn (Gp IW) o)(I:(IV kind p o).length<=1000000000000):Abs prog 22 [AQ [eI kind,Kc p,Du o]] (TD (IV kind p o)):=by
 simp only[IV,Yaa]at I;have d:=Fi kind B [] ZiB;have q:=QK p G (Bm kind) ZbG;have A:=RR o m (Bm kind++Cp p) Zdy;refine Ab func22 λw=>?_;rw[ntmps22];apply Y1;refine Bx ?_;refine Wa<|Y0<|Ah ?_
 refine Mn 5 1 rfl rfl rfl ?_;refine ER 1 5 1 (λn=>CR (([[],[],Bm kind,Bm kind++Cp p,Bm kind++Cp p++BZ o]:List (List Nat)).getD n [])) 4 none (λk=>([0,3,6,9]:List Nat).getD k 0) [.t 0,.q (.ptr 0 0),.q (.d (eI kind)),.t 1,.q (.ptr 0 1),.q (.d (Kc p)),.t 2,.q (.ptr 0 2),.q (.d (Du o)),.t 3,.q (.d (TD (IV kind p o))),.q (.d (TD (IV kind p o)))] [[],[],[(4,1)],[(3,0),(5,2)],[],[(7,4)],[(6,3),(8,5)],[],[(10,7)],[(9,6),(11,8)],[(12,9)],[(13,10)]] [(1,.ptr 0 0)] [(2,.d (TD (IV kind p o)))] ZbK rfl ⟨rfl,trivial⟩ (λ_ h=>by cases h) (by refine CSteps.m (Aa rfl) (Aa rfl) rfl rfl rfl rfl ?_;refine CSteps.q Zcc ?_;refine CSteps.q Zcc ?_;refine CSteps.t (d) (λ_=>rfl) ?_;refine CSteps.q Zcc ?_;refine CSteps.q Zcc ?_;refine CSteps.t (q) (λ_=>rfl) ?_;refine CSteps.q Zcc ?_;refine CSteps.q Zcc ?_;refine CSteps.t (A) (λ_=>rfl) ?_;refine CSteps.e rfl ZbK rfl rfl (EO (l:=IV kind p o) rfl (Aa rfl) (Aa rfl) (Aa rfl)) ?_;refine CSteps.q Zcc ?_;exact CSteps.nil) ZbK rfl ZbI ⟨rfl,trivial⟩ [.var 67 (([eI kind,Kc p,Du o]:List D).map .d),.row 5 1 (CR (Bm kind++Cp p++BZ o))] rfl ?_;exact Zfx
