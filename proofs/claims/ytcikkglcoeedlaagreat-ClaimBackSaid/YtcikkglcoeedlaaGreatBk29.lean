/- Part 29. No condition. -/
import Derived.Test.YtcikkglcoeedlaaGreatBk18
import Derived.Test.YtcikkglcoeedlaaGreatBk21
import Derived.Test.YtcikkglcoeedlaaGreatBk24
import Derived.Test.YtcikkglcoeedlaaGreatBk27
import Derived.Test.YtcikkglcoeedlaaGreatBk28
set_option linter.unusedSimpArgs false
set_option linter.unusedVariables false
set_option maxRecDepth 100000
set_option maxHeartbeats 4000000
namespace Go.Proofs.YtcikkglcoeedlaaGreat
open _root_.Go.Proofs.Tryz
open Go.RowKit
variable{l f:List Nat}{e:Type}{vI:Rd e}{uz:Type}{uc:e->List Nat}{uj:e->Prop}
abbrev gN(V:List Int):Nat:=(AR V 4%4).toNat
theorem A3W(T o:Nat)(N:Nat)(L:List (Nat×List (Nat->Int)))(p:Tc L)(V:List Int)(e:I8 V)(J:V.length<=9223372036854775807)(M:Int)(E:List (List Tm))(A:E.length<=12)(F Q I R G:D)(n d r:Int)(C:List (List Tm))(O:C.length<=12):Abs prog 49 [AP (He T o N L V),AP [ex (.int .i64 M),Ba E,F],AP [ex (.int .i64 1),Q,ex (.int .i64 n),ex (.int .i64 d),ex (.int .i64 r),I,Ba C,R,G]] (AP (EJ 0 (Ba (pQ (AZ L) 1 E.length)) Ao Ao Ao Ao Ao Ao Ao Ao Ao)):=by
 have q:=Ez T L p
 have l:(AZ L).length<=6:=by
  exact ZhK
 have K:=CH o V e 4 ZbH J;have S:=Cj e 4;obtain⟨g,P⟩:∃g:Nat,g=gN V:=⟨_,rfl⟩;have W:AR V 4%4=((g:Nat):Int):=by rw[P,gN];omega
 have i:g<=3:=by omega
 try rw[<-P]
 have X:=Eu (AZ L) 1 E.length ZbH ZbD ZbD;refine Ab func49 λv=>?_;refine ZgX ?_;refine FV (τ:=⟨[(3,.ptr 0 0),(4,.ptr 1 0),(5,.ptr 2 0),(6,.ptr 3 0),(7,.d (Ba (AZ L))),(8,.d (ex (.int .i64 ((E.length:Nat):Int)))),(9,.ptr 4 0),(10,.d (ex (.int .i64 (g:Nat))))],[.var 58 ((He T o N L V).map .d),.var 26 (([ex (.int .i64 M),Ba E,F]:List D).map .d),.var 34 (([ex (.int .i64 1),Q,ex (.int .i64 n),ex (.int .i64 d),ex (.int .i64 r),I,Ba C,R,G]:List D).map .d),.var 46 ((EJ 0 Ao Ao Ao Ao Ao Ao Ao Ao Ao Ao).map .d),.var 46 ((EJ 0 Ao Ao Ao Ao Ao Ao Ao Ao Ao Ao).map .d)]⟩) ZbI [[],[(16,0)],[(17,1)],[],[(19,3)],[(20,4)],[],[],[(23,7)],[(24,8)],[(25,9)],[],[(18,2)],[(21,5)],[(9,11),(22,6)],[(26,10)]] [.av (.ptr 0 1),.av (.d (ZW T L)),.av (.d (Ba (AZ L))),.av (.ptr 1 1),.av (.d (Ba E)),.av (.d (ex (.int .i64 ((E.length:Nat):Int)))),.av (.d (AP (EJ 0 Ao Ao Ao Ao Ao Ao Ao Ao Ao Ao))),.av (.ptr 0 2),.av (.d (Ol o V)),.av (.d (ex (.int .i64 (AR V 4)))),.av (.d (ex (.int .i64 (g:Nat)))),.newS 46 14 (EJ 0 Ao Ao Ao Ao Ao Ao Ao Ao Ao Ao),.av (.d (Ba (AZ L))),.av (.d (ex (.int .i64 ((E.length:Nat):Int)))),.st 11,.av (.d (ex (.int .i64 (g:Nat))))] ZbI ?_ ?_ ?_
 .refine Zhn ?_;refine Zgq ?_;exact ZgJ
 .exact Zkr
 refine Go ?_;refine AC (λu B=>u=0/\B=⟨[(3,.ptr 0 0),(4,.ptr 1 0),(5,.ptr 2 0),(6,.ptr 3 0),(7,.d (Ba (AZ L))),(8,.d (ex (.int .i64 ((E.length:Nat):Int)))),(9,.ptr 4 0),(10,.d (ex (.int .i64 (g:Nat)))),(11,.d (ex (.int .i64 0)))],[.var 58 ((He T o N L V).map .d),.var 26 (([ex (.int .i64 M),Ba E,F]:List D).map .d),.var 34 (([ex (.int .i64 1),Q,ex (.int .i64 n),ex (.int .i64 d),ex (.int .i64 r),I,Ba C,R,G]:List D).map .d),.var 46 ((EJ 0 Ao Ao Ao Ao Ao Ao Ao Ao Ao Ao).map .d),.var 46 ((EJ 0 (Ba (pQ (AZ L) 1 E.length)) Ao Ao Ao Ao Ao Ao Ao Ao Ao).map .d)]⟩) ?le ⟨rfl,rfl⟩ ?round
 case le=>exact Ac Zct Zcp
 case round=>
  exact Zbu
theorem A3V(T o:Nat)(N:Nat)(L:List (Nat×List (Nat->Int)))(p:Tc L)(V:List Int)(e:I8 V)(J:V.length<=9223372036854775807)(M:Int)(E:List (List Tm))(A:E.length<=12)(F Q I R G:D)(n d r:Int)(C:List (List Tm))(O:C.length<=12):Abs prog 49 [AP (He T o N L V),AP [ex (.int .i64 M),Ba E,F],AP [ex (.int .i64 3),Q,ex (.int .i64 n),ex (.int .i64 d),ex (.int .i64 r),I,Ba C,R,G]] (AP (EJ ((gN V+1:Nat):Int) (Ba (pQ (AZ L) 1 E.length)) Ao Ao Ao Ao Ao Ao Ao Ao Ao)):=by
 have q:=Ez T L p
 have l:(AZ L).length<=6:=by
  exact ZhK
 have K:=CH o V e 4 ZbH J;have S:=Cj e 4;obtain⟨g,P⟩:∃g:Nat,g=gN V:=⟨_,rfl⟩;have W:AR V 4%4=((g:Nat):Int):=by rw[P,gN];omega
 have i:g<=3:=by omega
 try rw[<-P]
 have X:=Eu (AZ L) 1 E.length ZbH ZbD ZbD;refine Ab func49 λv=>?_;refine ZgX ?_;refine FV (τ:=⟨[(3,.ptr 0 0),(4,.ptr 1 0),(5,.ptr 2 0),(6,.ptr 3 0),(7,.d (Ba (AZ L))),(8,.d (ex (.int .i64 ((E.length:Nat):Int)))),(9,.ptr 4 0),(10,.d (ex (.int .i64 (g:Nat))))],[.var 58 ((He T o N L V).map .d),.var 26 (([ex (.int .i64 M),Ba E,F]:List D).map .d),.var 34 (([ex (.int .i64 3),Q,ex (.int .i64 n),ex (.int .i64 d),ex (.int .i64 r),I,Ba C,R,G]:List D).map .d),.var 46 ((EJ 0 Ao Ao Ao Ao Ao Ao Ao Ao Ao Ao).map .d),.var 46 ((EJ 0 Ao Ao Ao Ao Ao Ao Ao Ao Ao Ao).map .d)]⟩) ZbI [[],[(16,0)],[(17,1)],[],[(19,3)],[(20,4)],[],[],[(23,7)],[(24,8)],[(25,9)],[],[(18,2)],[(21,5)],[(9,11),(22,6)],[(26,10)]] [.av (.ptr 0 1),.av (.d (ZW T L)),.av (.d (Ba (AZ L))),.av (.ptr 1 1),.av (.d (Ba E)),.av (.d (ex (.int .i64 ((E.length:Nat):Int)))),.av (.d (AP (EJ 0 Ao Ao Ao Ao Ao Ao Ao Ao Ao Ao))),.av (.ptr 0 2),.av (.d (Ol o V)),.av (.d (ex (.int .i64 (AR V 4)))),.av (.d (ex (.int .i64 (g:Nat)))),.newS 46 14 (EJ 0 Ao Ao Ao Ao Ao Ao Ao Ao Ao Ao),.av (.d (Ba (AZ L))),.av (.d (ex (.int .i64 ((E.length:Nat):Int)))),.st 11,.av (.d (ex (.int .i64 (g:Nat))))] ZbI ?_ ?_ ?_
 .refine Zhn ?_;refine Zgq ?_;exact ZgJ
 .exact Zkr
 refine Go ?_;refine AC (λu B=>u=0/\B=⟨[(3,.ptr 0 0),(4,.ptr 1 0),(5,.ptr 2 0),(6,.ptr 3 0),(7,.d (Ba (AZ L))),(8,.d (ex (.int .i64 ((E.length:Nat):Int)))),(9,.ptr 4 0),(10,.d (ex (.int .i64 (g:Nat)))),(11,.d (ex (.int .i64 0)))],[.var 58 ((He T o N L V).map .d),.var 26 (([ex (.int .i64 M),Ba E,F]:List D).map .d),.var 34 (([ex (.int .i64 3),Q,ex (.int .i64 n),ex (.int .i64 d),ex (.int .i64 r),I,Ba C,R,G]:List D).map .d),.var 46 ((EJ 0 Ao Ao Ao Ao Ao Ao Ao Ao Ao Ao).map .d),.var 46 ((EJ ((g+1:Nat):Int) (Ba (pQ (AZ L) 1 E.length)) Ao Ao Ao Ao Ao Ao Ao Ao Ao).map .d)]⟩) ?le ⟨rfl,rfl⟩ ?round
 case le=>exact Ac Zct Zcp
 case round=>
  exact Zbu
theorem A1l(T o:Nat)(N:Nat)(L:List (Nat×List (Nat->Int)))(p:Tc L)(V:List Int)(e:I8 V)(J:V.length<=9223372036854775807)(M:Int)(E:List (List Tm))(A:E.length<=12)(F Q G R C:D)(n d r:Int)(B:List (List Tm))(O:B.length<=12):Abs prog 49 [AP (He T o N L V),AP [ex (.int .i64 M),Ba E,F],AP [ex (.int .i64 11),Q,ex (.int .i64 n),ex (.int .i64 d),ex (.int .i64 r),G,Ba B,R,C]] (AP (EJ 0 Ao Ao Ao (Fv (Gz (AZ L) E.length (1+B.length*(B.length+1)/2))) Ao Ao Ao Ao Ao Ao)):=by
 have q:=Ez T L p
 have l:(AZ L).length<=6:=by
  exact ZhK
 have K:=CH o V e 4 ZbH J;have S:=Cj e 4;obtain⟨g,P⟩:∃g:Nat,g=gN V:=⟨_,rfl⟩;have W:AR V 4%4=((g:Nat):Int):=by rw[P,gN];omega
 have i:g<=3:=by omega
 try rw[<-P]
 obtain⟨c,I⟩:∃c,c=B.length:=⟨_,rfl⟩;have k:c*(c+1)<=12*13:=YaW ZbD ZbD;rw[<-I];have X:=JL (AZ L) (1+c*(c+1)/2) E.length ZbD ZbD ZbD;refine Ab func49 λv=>?_;refine ZgX ?_;refine FV (τ:=⟨[(3,.ptr 0 0),(4,.ptr 1 0),(5,.ptr 2 0),(6,.ptr 3 0),(7,.d (Ba (AZ L))),(8,.d (ex (.int .i64 ((E.length:Nat):Int)))),(9,.ptr 4 0),(10,.d (ex (.int .i64 (g:Nat))))],[.var 58 ((He T o N L V).map .d),.var 26 (([ex (.int .i64 M),Ba E,F]:List D).map .d),.var 34 (([ex (.int .i64 11),Q,ex (.int .i64 n),ex (.int .i64 d),ex (.int .i64 r),G,Ba B,R,C]:List D).map .d),.var 46 ((EJ 0 Ao Ao Ao Ao Ao Ao Ao Ao Ao Ao).map .d),.var 46 ((EJ 0 Ao Ao Ao Ao Ao Ao Ao Ao Ao Ao).map .d)]⟩) ZbI [[],[(16,0)],[(17,1)],[],[(19,3)],[(20,4)],[],[],[(23,7)],[(24,8)],[(25,9)],[],[(18,2)],[(21,5)],[(9,11),(22,6)],[(26,10)]] [.av (.ptr 0 1),.av (.d (ZW T L)),.av (.d (Ba (AZ L))),.av (.ptr 1 1),.av (.d (Ba E)),.av (.d (ex (.int .i64 ((E.length:Nat):Int)))),.av (.d (AP (EJ 0 Ao Ao Ao Ao Ao Ao Ao Ao Ao Ao))),.av (.ptr 0 2),.av (.d (Ol o V)),.av (.d (ex (.int .i64 (AR V 4)))),.av (.d (ex (.int .i64 (g:Nat)))),.newS 46 14 (EJ 0 Ao Ao Ao Ao Ao Ao Ao Ao Ao Ao),.av (.d (Ba (AZ L))),.av (.d (ex (.int .i64 ((E.length:Nat):Int)))),.st 11,.av (.d (ex (.int .i64 (g:Nat))))] ZbI ?_ ?_ ?_
 .refine Zhn ?_;refine Zgq ?_;exact ZgJ
 .exact Zkr
 refine Go ?_;refine Wq (GU (r:=((c*(c+1):Nat):Int)) (ao rfl) (ao rfl) (AaW ZbD ZbD ZbD)) ?_;refine Wq (GT (r:=((c*(c+1)/2:Nat):Int)) (ao rfl) (ao rfl) ZbH (A8v _ ZbD)) ?_;refine Wq (DN (r:=((1+c*(c+1)/2:Nat):Int)) (ao rfl) (ao rfl) (A4d ZbD ZbD)) ?_;exact ZfA
theorem A1k(T o:Nat)(N:Nat)(L:List (Nat×List (Nat->Int)))(p:Tc L)(V:List Int)(e:I8 V)(J:V.length<=9223372036854775807)(M:Int)(E:List (List Tm))(A:E.length<=12)(F Q G R C:D)(n d r:Int)(B:List (List Tm))(I:B.length<=12):Abs prog 49 [AP (He T o N L V),AP [ex (.int .i64 M),Ba E,F],AP [ex (.int .i64 12),Q,ex (.int .i64 n),ex (.int .i64 d),ex (.int .i64 r),G,Ba B,R,C]] (AP (EJ 0 Ao (Ba (pQ (AZ L) 0 (gN V))) (Ep (CS (gN V))) (Fv (Gz (AZ L) E.length (gN V))) Ao Ao Ao Ao Ao Ao)):=by
 have q:=Ez T L p
 have l:(AZ L).length<=6:=by
  exact ZhK
 have K:=CH o V e 4 ZbH J;have S:=Cj e 4;obtain⟨g,P⟩:∃g:Nat,g=gN V:=⟨_,rfl⟩;have O:AR V 4%4=((g:Nat):Int):=by rw[P,gN];omega
 have i:g<=3:=by omega
 try rw[<-P]
 have a:=A0w (AZ L) g E.length i ZbD ZbD;refine Ab func49 λv=>?_;refine ZgX ?_;refine FV (τ:=⟨[(3,.ptr 0 0),(4,.ptr 1 0),(5,.ptr 2 0),(6,.ptr 3 0),(7,.d (Ba (AZ L))),(8,.d (ex (.int .i64 ((E.length:Nat):Int)))),(9,.ptr 4 0),(10,.d (ex (.int .i64 (g:Nat))))],[.var 58 ((He T o N L V).map .d),.var 26 (([ex (.int .i64 M),Ba E,F]:List D).map .d),.var 34 (([ex (.int .i64 12),Q,ex (.int .i64 n),ex (.int .i64 d),ex (.int .i64 r),G,Ba B,R,C]:List D).map .d),.var 46 ((EJ 0 Ao Ao Ao Ao Ao Ao Ao Ao Ao Ao).map .d),.var 46 ((EJ 0 Ao Ao Ao Ao Ao Ao Ao Ao Ao Ao).map .d)]⟩) ZbI [[],[(16,0)],[(17,1)],[],[(19,3)],[(20,4)],[],[],[(23,7)],[(24,8)],[(25,9)],[],[(18,2)],[(21,5)],[(9,11),(22,6)],[(26,10)]] [.av (.ptr 0 1),.av (.d (ZW T L)),.av (.d (Ba (AZ L))),.av (.ptr 1 1),.av (.d (Ba E)),.av (.d (ex (.int .i64 ((E.length:Nat):Int)))),.av (.d (AP (EJ 0 Ao Ao Ao Ao Ao Ao Ao Ao Ao Ao))),.av (.ptr 0 2),.av (.d (Ol o V)),.av (.d (ex (.int .i64 (AR V 4)))),.av (.d (ex (.int .i64 (g:Nat)))),.newS 46 14 (EJ 0 Ao Ao Ao Ao Ao Ao Ao Ao Ao Ao),.av (.d (Ba (AZ L))),.av (.d (ex (.int .i64 ((E.length:Nat):Int)))),.st 11,.av (.d (ex (.int .i64 (g:Nat))))] ZbI ?_ ?_ ?_
 .refine Zhn ?_;refine ZfL ?_;refine HYSteps.cons (.q rfl (Eo (r:=((g:Nat):Int)) rfl rfl ((DE (AR V 4) (j:=2) ZbD).trans O))) ?_;exact ZgJ
 .exact Zkr
 exact ZfA
theorem A3R(T o:Nat)(N:Nat)(L:List (Nat×List (Nat->Int)))(p:Tc L)(V:List Int)(e:I8 V)(J:V.length<=9223372036854775807)(M:Int)(E:List (List Tm))(A:E.length<=12)(F Q I R G:D)(n d r:Int)(C:List (List Tm))(O:C.length<=12)(B:Int)(k:B≠1)(m:B≠3)(h:B≠7)(w:B≠8)(z:B≠9)(Z:B≠10)(W:B≠11)(c:B≠12)(Y:B≠13):Abs prog 49 [AP (He T o N L V),AP [ex (.int .i64 M),Ba E,F],AP [ex (.int .i64 B),Q,ex (.int .i64 n),ex (.int .i64 d),ex (.int .i64 r),I,Ba C,R,G]] (AP (EJ 0 Ao (Ba (pQ (AZ L) 0 (gN V))) (Ep (CS (gN V))) (Fv (Gz (AZ L) E.length (gN V))) (Fv (Gz (AZ L) (gN V) E.length)) (Fv (Gz (AZ L) (gN V) (gN V*(gN V-1)/2))) Ao Ao Ao Ao)):=by
 have q:=Ez T L p
 have l:(AZ L).length<=6:=by
  exact ZhK
 have K:=CH o V e 4 ZbH J;have S:=Cj e 4;obtain⟨g,P⟩:∃g:Nat,g=gN V:=⟨_,rfl⟩;have X:AR V 4%4=((g:Nat):Int):=by rw[P,gN];omega
 have i:g<=3:=by omega
 try rw[<-P]
 have a:=MQ (AZ L) g E.length i ZbD ZbD;refine Ab func49 λv=>?_;refine ZgX ?_;refine FV (τ:=⟨[(3,.ptr 0 0),(4,.ptr 1 0),(5,.ptr 2 0),(6,.ptr 3 0),(7,.d (Ba (AZ L))),(8,.d (ex (.int .i64 ((E.length:Nat):Int)))),(9,.ptr 4 0),(10,.d (ex (.int .i64 (g:Nat))))],[.var 58 ((He T o N L V).map .d),.var 26 (([ex (.int .i64 M),Ba E,F]:List D).map .d),.var 34 (([ex (.int .i64 B),Q,ex (.int .i64 n),ex (.int .i64 d),ex (.int .i64 r),I,Ba C,R,G]:List D).map .d),.var 46 ((EJ 0 Ao Ao Ao Ao Ao Ao Ao Ao Ao Ao).map .d),.var 46 ((EJ 0 Ao Ao Ao Ao Ao Ao Ao Ao Ao Ao).map .d)]⟩) ZbI [[],[(16,0)],[(17,1)],[],[(19,3)],[(20,4)],[],[],[(23,7)],[(24,8)],[(25,9)],[],[(18,2)],[(21,5)],[(9,11),(22,6)],[(26,10)]] [.av (.ptr 0 1),.av (.d (ZW T L)),.av (.d (Ba (AZ L))),.av (.ptr 1 1),.av (.d (Ba E)),.av (.d (ex (.int .i64 ((E.length:Nat):Int)))),.av (.d (AP (EJ 0 Ao Ao Ao Ao Ao Ao Ao Ao Ao Ao))),.av (.ptr 0 2),.av (.d (Ol o V)),.av (.d (ex (.int .i64 (AR V 4)))),.av (.d (ex (.int .i64 (g:Nat)))),.newS 46 14 (EJ 0 Ao Ao Ao Ao Ao Ao Ao Ao Ao Ao),.av (.d (Ba (AZ L))),.av (.d (ex (.int .i64 ((E.length:Nat):Int)))),.st 11,.av (.d (ex (.int .i64 (g:Nat))))] ZbI ?_ ?_ ?_
 .refine Zhn ?_;refine ZfL ?_;refine HYSteps.cons (.q rfl (Eo (r:=((g:Nat):Int)) rfl rfl ((DE (AR V 4) (j:=2) ZbD).trans X))) ?_;exact ZgJ
 .exact Zkr
 exact ZfA
def pP(Q:List (List Tm))(i:Nat):List Tm:=if Q.length=0 then[]else Q.getD (i%Q.length) default
abbrev US(Q:List (List Tm))(V:List Int)(k:Nat):List (List D):=(List.range k).map λi=>DA (Rat.divInt (AR V i) 5)++[BS (pP Q i)]
theorem Xc(Q:List (List Tm))(V:List Int)(k:Nat):US Q V (k+1)=US Q V k++[DA (Rat.divInt (AR V k) 5)++[BS (pP Q k)]]:=by simp[US,Ycv]
theorem A3S(T K:Nat)(N:Nat)(L:List (Nat×List (Nat->Int)))(p:Tc L)(V:List Int)(e:I8 V)(J:V.length<=9223372036854775807)(X:Int)(E:List (List Tm))(A:E.length<=12)(F a Z R W:D)(n d r:Int)(O:List (List Tm))(f:O.length<=12)(M:Int)(s:M=9):Abs prog 49 [AP (He T K N L V),AP [ex (.int .i64 X),Ba E,F],AP [ex (.int .i64 M),a,ex (.int .i64 n),ex (.int .i64 d),ex (.int .i64 r),Z,Ba O,R,W]] (AP (EJ 0 (Ba (pQ (AZ L) 1 E.length)) Ao Ao Ao Ao Ao Ao (slD 184 5 (US (AZ L) V (gN V))) Ao Ao)):=by
 have q:=Ez T L p
 have l:(AZ L).length<=6:=by
  exact ZhK
 have c:=CH K V e 4 ZbH J;have S:=Cj e 4;obtain⟨g,I⟩:∃g:Nat,g=gN V:=⟨_,rfl⟩;have h:AR V 4%4=((g:Nat):Int):=by rw[I,gN];omega
 have i:g<=3:=by omega
 try rw[<-I]
 have m:=Eu (AZ L) 1 E.length ZbH ZbD ZbD;refine Ab func49 λG=>?_;refine ZgX ?_;refine FV (τ:=⟨[(3,.ptr 0 0),(4,.ptr 1 0),(5,.ptr 2 0),(6,.ptr 3 0),(7,.d (Ba (AZ L))),(8,.d (ex (.int .i64 ((E.length:Nat):Int)))),(9,.ptr 4 0),(10,.d (ex (.int .i64 (g:Nat))))],[.var 58 ((He T K N L V).map .d),.var 26 (([ex (.int .i64 X),Ba E,F]:List D).map .d),.var 34 (([ex (.int .i64 M),a,ex (.int .i64 n),ex (.int .i64 d),ex (.int .i64 r),Z,Ba O,R,W]:List D).map .d),.var 46 ((EJ 0 Ao Ao Ao Ao Ao Ao Ao Ao Ao Ao).map .d),.var 46 ((EJ 0 Ao Ao Ao Ao Ao Ao Ao Ao Ao Ao).map .d)]⟩) ZbI [[],[(16,0)],[(17,1)],[],[(19,3)],[(20,4)],[],[],[(23,7)],[(24,8)],[(25,9)],[],[(18,2)],[(21,5)],[(9,11),(22,6)],[(26,10)]] [.av (.ptr 0 1),.av (.d (ZW T L)),.av (.d (Ba (AZ L))),.av (.ptr 1 1),.av (.d (Ba E)),.av (.d (ex (.int .i64 ((E.length:Nat):Int)))),.av (.d (AP (EJ 0 Ao Ao Ao Ao Ao Ao Ao Ao Ao Ao))),.av (.ptr 0 2),.av (.d (Ol K V)),.av (.d (ex (.int .i64 (AR V 4)))),.av (.d (ex (.int .i64 (g:Nat)))),.newS 46 14 (EJ 0 Ao Ao Ao Ao Ao Ao Ao Ao Ao Ao),.av (.d (Ba (AZ L))),.av (.d (ex (.int .i64 ((E.length:Nat):Int)))),.st 11,.av (.d (ex (.int .i64 (g:Nat))))] ZbI ?_ ?_ ?_
 .refine Zhn ?_;refine Zgg ?_;exact Zhe
 .exact Zkr
 refine Yn<|Ai<|Y1 ?_;refine Wq AB ?_;refine Wq Ar ?_;refine Y0<|AWp.block<|Ai<|Y1 ?_;refine Wq AN ?_;refine Wa<|Y0<|Cf<|Y1 ?_;refine Wq AN ?_;refine Wa<|Y0<|Cf<|Y1 ?_;refine Wq Bb ?_;refine Wa<|Y0<|Ct<|Ys<|Ct<|Y1<|Wm<|Wm ?_;refine Wq (AK (m)) ?_;refine Wq AB ?_;refine Dd (ao rfl) (ao rfl) rfl (Aa rfl) ZbU rfl rfl ?_;refine Y0<|Ai<|Y1 ?_;refine Wq AB ?_;refine Wq Ar ?_;refine Wq AN ?_;refine Y0<|Cf<|Ys<|Y1<|Wa<|Y0<|AWp.block ?_
 exact Zbv
theorem A1m(T K:Nat)(N:Nat)(L:List (Nat×List (Nat->Int)))(p:Tc L)(V:List Int)(e:I8 V)(J:V.length<=9223372036854775807)(X:Int)(E:List (List Tm))(A:E.length<=12)(F a Z R W:D)(n d r:Int)(O:List (List Tm))(f:O.length<=12)(M:Int)(s:M=10):Abs prog 49 [AP (He T K N L V),AP [ex (.int .i64 X),Ba E,F],AP [ex (.int .i64 M),a,ex (.int .i64 n),ex (.int .i64 d),ex (.int .i64 r),Z,Ba O,R,W]] (AP (EJ 0 (Ba (pQ (AZ L) 1 E.length)) Ao Ao Ao Ao Ao Ao (slD 184 5 (US (AZ L) V (gN V))) Ao Ao)):=by
 have q:=Ez T L p
 have l:(AZ L).length<=6:=by
  exact ZhK
 have c:=CH K V e 4 ZbH J;have S:=Cj e 4;obtain⟨g,I⟩:∃g:Nat,g=gN V:=⟨_,rfl⟩;have h:AR V 4%4=((g:Nat):Int):=by rw[I,gN];omega
 have i:g<=3:=by omega
 try rw[<-I]
 have m:=Eu (AZ L) 1 E.length ZbH ZbD ZbD;refine Ab func49 λG=>?_;refine ZgX ?_;refine FV (τ:=⟨[(3,.ptr 0 0),(4,.ptr 1 0),(5,.ptr 2 0),(6,.ptr 3 0),(7,.d (Ba (AZ L))),(8,.d (ex (.int .i64 ((E.length:Nat):Int)))),(9,.ptr 4 0),(10,.d (ex (.int .i64 (g:Nat))))],[.var 58 ((He T K N L V).map .d),.var 26 (([ex (.int .i64 X),Ba E,F]:List D).map .d),.var 34 (([ex (.int .i64 M),a,ex (.int .i64 n),ex (.int .i64 d),ex (.int .i64 r),Z,Ba O,R,W]:List D).map .d),.var 46 ((EJ 0 Ao Ao Ao Ao Ao Ao Ao Ao Ao Ao).map .d),.var 46 ((EJ 0 Ao Ao Ao Ao Ao Ao Ao Ao Ao Ao).map .d)]⟩) ZbI [[],[(16,0)],[(17,1)],[],[(19,3)],[(20,4)],[],[],[(23,7)],[(24,8)],[(25,9)],[],[(18,2)],[(21,5)],[(9,11),(22,6)],[(26,10)]] [.av (.ptr 0 1),.av (.d (ZW T L)),.av (.d (Ba (AZ L))),.av (.ptr 1 1),.av (.d (Ba E)),.av (.d (ex (.int .i64 ((E.length:Nat):Int)))),.av (.d (AP (EJ 0 Ao Ao Ao Ao Ao Ao Ao Ao Ao Ao))),.av (.ptr 0 2),.av (.d (Ol K V)),.av (.d (ex (.int .i64 (AR V 4)))),.av (.d (ex (.int .i64 (g:Nat)))),.newS 46 14 (EJ 0 Ao Ao Ao Ao Ao Ao Ao Ao Ao Ao),.av (.d (Ba (AZ L))),.av (.d (ex (.int .i64 ((E.length:Nat):Int)))),.st 11,.av (.d (ex (.int .i64 (g:Nat))))] ZbI ?_ ?_ ?_
 .refine Zhn ?_;refine Zgg ?_;exact Zhe
 .exact Zkr
 refine Yn<|Ai<|Y1 ?_;refine Wq AB ?_;refine Wq Ar ?_;refine Y0<|AWp.block<|Ai<|Y1 ?_;refine Wq AN ?_;refine Wa<|Y0<|Cf<|Y1 ?_;refine Wq AN ?_;refine Wa<|Y0<|Cf<|Y1 ?_;refine Wq AN ?_;refine Wa<|Y0<|Cf<|AWp.region ?_;refine Wq Bb ?_;refine Wa<|Y0<|Ct<|Y1<|Wm<|Wm ?_;refine Wq (AK (m)) ?_;refine Wq AB ?_;refine Dd (ao rfl) (ao rfl) rfl (Aa rfl) ZbU rfl rfl ?_;refine Y0<|Ai<|Y1 ?_;refine Wq AB ?_;refine Wq Ar ?_;refine Wq AN ?_;refine Y0<|Cf<|Ys<|Y1<|Wa<|Y0<|AWp.block ?_
 exact Zbv
abbrev ctR(g o c q s A P l a:D):List D:=[ex (.int .i64 0),Ao,g,o,c,q,s,ex (.int .i64 1),A,i0D,i0D,i0D,i0D,i0D,i0D,P,Ao,l,Ao,Ao,Ao,Ao,Ao,Ao,a,Ao,Ao,Ao]
abbrev VX(V:List Int)(k:Nat):List (List D):=(List.range k).map λi=>Jf (Ee V i 0)
theorem YL(V:List Int)(k:Nat):VX V (k+1)=VX V k++[Jf (Ee V k 0)]:=by simp[VX,Ycv]
theorem A3U(T o:Nat)(N:Nat)(L:List (Nat×List (Nat->Int)))(p:Tc L)(V:List Int)(e:I8 V)(J:V.length<=9223372036854775807)(O:Int)(E:List (List Tm))(A:E.length<=12)(F X W R M:D)(n d r:Int)(K:List (List Tm))(c:K.length<=12)(I:Int)(j:I=7):Abs prog 49 [AP (He T o N L V),AP [ex (.int .i64 O),Ba E,F],AP [ex (.int .i64 I),X,ex (.int .i64 n),ex (.int .i64 d),ex (.int .i64 r),W,Ba K,R,M]] (AP (ctR (Ba (pQ (AZ L) 0 (gN V))) (Ep (CS (gN V))) (Fv (Gz (AZ L) E.length (gN V))) (Fv (Gz (AZ L) (gN V) E.length)) (Fv (Gz (AZ L) (gN V) ((gN V)*((gN V)-1)/2))) (ex (.int .i64 (AR V 5))) (Qp (KC V 3)) (Qp (KC V 2)) (slD 129 8 (VX V (gN V))))):=by
 have q:=Ez T L p
 have l:(AZ L).length<=6:=by
  exact ZhK
 have a:=CH o V e 4 ZbH J;have S:=Cj e 4;obtain⟨g,P⟩:∃g:Nat,g=gN V:=⟨_,rfl⟩;have f:AR V 4%4=((g:Nat):Int):=by rw[P,gN];omega
 have i:g<=3:=by omega
 try rw[<-P]
 have m:=MQ (AZ L) g E.length i ZbD ZbD;have h:=CH o V e 5 ZbH J;have s:=LY o V e 3 ZbH J;have Z:=LY o V e 2 ZbH J;refine Ab func49 λG=>?_;refine ZgX ?_;refine FV (τ:=⟨[(3,.ptr 0 0),(4,.ptr 1 0),(5,.ptr 2 0),(6,.ptr 3 0),(7,.d (Ba (AZ L))),(8,.d (ex (.int .i64 ((E.length:Nat):Int)))),(9,.ptr 4 0),(10,.d (ex (.int .i64 (g:Nat))))],[.var 58 ((He T o N L V).map .d),.var 26 (([ex (.int .i64 O),Ba E,F]:List D).map .d),.var 34 (([ex (.int .i64 I),X,ex (.int .i64 n),ex (.int .i64 d),ex (.int .i64 r),W,Ba K,R,M]:List D).map .d),.var 46 ((EJ 0 Ao Ao Ao Ao Ao Ao Ao Ao Ao Ao).map .d),.var 46 ((EJ 0 Ao Ao Ao Ao Ao Ao Ao Ao Ao Ao).map .d)]⟩) ZbI [[],[(16,0)],[(17,1)],[],[(19,3)],[(20,4)],[],[],[(23,7)],[(24,8)],[(25,9)],[],[(18,2)],[(21,5)],[(9,11),(22,6)],[(26,10)]] [.av (.ptr 0 1),.av (.d (ZW T L)),.av (.d (Ba (AZ L))),.av (.ptr 1 1),.av (.d (Ba E)),.av (.d (ex (.int .i64 ((E.length:Nat):Int)))),.av (.d (AP (EJ 0 Ao Ao Ao Ao Ao Ao Ao Ao Ao Ao))),.av (.ptr 0 2),.av (.d (Ol o V)),.av (.d (ex (.int .i64 (AR V 4)))),.av (.d (ex (.int .i64 (g:Nat)))),.newS 46 14 (EJ 0 Ao Ao Ao Ao Ao Ao Ao Ao Ao Ao),.av (.d (Ba (AZ L))),.av (.d (ex (.int .i64 ((E.length:Nat):Int)))),.st 11,.av (.d (ex (.int .i64 (g:Nat))))] ZbI ?_ ?_ ?_
 .refine Zhn ?_;refine Zfq ?_;refine Zgn ?_;exact ZgJ
 .exact Zkr
 refine Yn<|Ai<|Y1 ?_;refine Wq AB ?_;refine Wq Ar ?_;refine Y0<|AWp.block<|Ai<|Y1 ?_;refine Wq AN ?_;refine Wa<|Y0<|Cf<|Y1 ?_;refine Wq AN ?_;refine Wa<|Y0<|Cf<|Y1 ?_;refine Wq AN ?_;refine Wa<|Y0<|Cf<|AWp.region ?_;refine Wq AN ?_;refine Wa<|Y0<|Cf<|Y1 ?_;refine Wq AN ?_;refine Wa<|Y0<|Cf<|Y1 ?_;refine Wq AN ?_;refine Wa<|Y0<|Cf<|Y1 ?_;refine Wq AN ?_;refine Wa<|Y0<|Cf<|AWp.region ?_;refine Wq AH ?_;refine Wm<|Wm<|Wm ?_;refine Wq (AK (m)) ?_;refine Sf ?_;refine AWl.nil<|Bh<|Yn<|Ai<|Y1 ?_;refine Wq AB ?_;refine Wq Ar ?_;refine Wq Bb ?_;refine Wm ?_;refine Ws ?_;refine Ws ?_;refine Ws ?_;refine Wq Cz ?_;refine Y0<|Ct<|Y1 ?_;refine Wq AB ?_;refine Wq Ar ?_;refine Wq (AK (h)) ?_;(refine De rfl rfl ?_;(refine Ly (Aa rfl) (Aa rfl) rfl rfl ?_;(repeat ((first | refine⟨_,Aw (ao rfl),?_⟩ | refine⟨_,Po rfl,?_⟩);refine⟨_,rfl,?_⟩));refine⟨_,rfl,?_⟩));refine Wq AB ?_;refine Wq AB ?_;refine WO (ao rfl) (ao rfl) rfl (Aa rfl) rfl rfl rfl ?_;refine Y0<|Y1 ?_;refine Wq AB ?_;refine Wq Ar ?_;refine Wq (AK (s)) ?_;refine Wq AB ?_;refine Wq AB ?_;refine Dd (ao rfl) (ao rfl) rfl (Aa rfl) ZbU rfl rfl ?_;refine Y0<|Y1 ?_;refine Wq AB ?_;refine Wq Ar ?_;refine Wq (AK (Z)) ?_;refine Wq AB ?_;refine Wq AB ?_;refine Wq Wk ?_;refine Dd (ao rfl) (ao rfl) rfl (Aa rfl) ZbU rfl rfl ?_;refine Y0<|Y1<|Wa<|Y0<|AWp.block ?_
 exact Zbw
theorem A3T(T o:Nat)(N:Nat)(L:List (Nat×List (Nat->Int)))(p:Tc L)(V:List Int)(e:I8 V)(J:V.length<=9223372036854775807)(O:Int)(E:List (List Tm))(A:E.length<=12)(F X W R M:D)(n d r:Int)(K:List (List Tm))(c:K.length<=12)(I:Int)(j:I=8):Abs prog 49 [AP (He T o N L V),AP [ex (.int .i64 O),Ba E,F],AP [ex (.int .i64 I),X,ex (.int .i64 n),ex (.int .i64 d),ex (.int .i64 r),W,Ba K,R,M]] (AP (ctR (Ba (pQ (AZ L) 0 (gN V))) (Ep (CS (gN V))) (Fv (Gz (AZ L) E.length (gN V))) (Fv (Gz (AZ L) (gN V) E.length)) (Fv (Gz (AZ L) (gN V) ((gN V)*((gN V)-1)/2))) (ex (.int .i64 (AR V 5))) (Qp (KC V 3)) (Qp (KC V 2)) (slD 129 8 (VX V (gN V))))):=by
 have q:=Ez T L p
 have l:(AZ L).length<=6:=by
  exact ZhK
 have a:=CH o V e 4 ZbH J;have S:=Cj e 4;obtain⟨g,P⟩:∃g:Nat,g=gN V:=⟨_,rfl⟩;have f:AR V 4%4=((g:Nat):Int):=by rw[P,gN];omega
 have i:g<=3:=by omega
 try rw[<-P]
 have m:=MQ (AZ L) g E.length i ZbD ZbD;have h:=CH o V e 5 ZbH J;have s:=LY o V e 3 ZbH J;have Z:=LY o V e 2 ZbH J;refine Ab func49 λG=>?_;refine ZgX ?_;refine FV (τ:=⟨[(3,.ptr 0 0),(4,.ptr 1 0),(5,.ptr 2 0),(6,.ptr 3 0),(7,.d (Ba (AZ L))),(8,.d (ex (.int .i64 ((E.length:Nat):Int)))),(9,.ptr 4 0),(10,.d (ex (.int .i64 (g:Nat))))],[.var 58 ((He T o N L V).map .d),.var 26 (([ex (.int .i64 O),Ba E,F]:List D).map .d),.var 34 (([ex (.int .i64 I),X,ex (.int .i64 n),ex (.int .i64 d),ex (.int .i64 r),W,Ba K,R,M]:List D).map .d),.var 46 ((EJ 0 Ao Ao Ao Ao Ao Ao Ao Ao Ao Ao).map .d),.var 46 ((EJ 0 Ao Ao Ao Ao Ao Ao Ao Ao Ao Ao).map .d)]⟩) ZbI [[],[(16,0)],[(17,1)],[],[(19,3)],[(20,4)],[],[],[(23,7)],[(24,8)],[(25,9)],[],[(18,2)],[(21,5)],[(9,11),(22,6)],[(26,10)]] [.av (.ptr 0 1),.av (.d (ZW T L)),.av (.d (Ba (AZ L))),.av (.ptr 1 1),.av (.d (Ba E)),.av (.d (ex (.int .i64 ((E.length:Nat):Int)))),.av (.d (AP (EJ 0 Ao Ao Ao Ao Ao Ao Ao Ao Ao Ao))),.av (.ptr 0 2),.av (.d (Ol o V)),.av (.d (ex (.int .i64 (AR V 4)))),.av (.d (ex (.int .i64 (g:Nat)))),.newS 46 14 (EJ 0 Ao Ao Ao Ao Ao Ao Ao Ao Ao Ao),.av (.d (Ba (AZ L))),.av (.d (ex (.int .i64 ((E.length:Nat):Int)))),.st 11,.av (.d (ex (.int .i64 (g:Nat))))] ZbI ?_ ?_ ?_
 .refine Zhn ?_;refine Zfq ?_;refine Zgn ?_;exact ZgJ
 .exact Zkr
 refine Yn<|Ai<|Y1 ?_;refine Wq AB ?_;refine Wq Ar ?_;refine Y0<|AWp.block<|Ai<|Y1 ?_;refine Wq AN ?_;refine Wa<|Y0<|Cf<|Y1 ?_;refine Wq AN ?_;refine Wa<|Y0<|Cf<|Y1 ?_;refine Wq AN ?_;refine Wa<|Y0<|Cf<|AWp.region ?_;refine Wq AN ?_;refine Wa<|Y0<|Cf<|Y1 ?_;refine Wq AN ?_;refine Wa<|Y0<|Cf<|Y1 ?_;refine Wq AN ?_;refine Wa<|Y0<|Cf<|Y1 ?_;refine Wq AN ?_;refine Wa<|Y0<|Cf<|AWp.region ?_;refine Wq AH ?_;refine Wm<|Wm<|Wm ?_;refine Wq (AK (m)) ?_;refine Sf ?_;refine AWl.nil<|Bh<|Yn<|Ai<|Y1 ?_;refine Wq AB ?_;refine Wq Ar ?_;refine Wq AN ?_;refine Wm ?_;refine Wg AB ?_;refine Wg Ar ?_;refine Wg Bb ?_;refine Wq BT ?_;refine Y0<|Ct<|Y1 ?_;refine Wq AB ?_;refine Wq Ar ?_;refine Wq (AK (h)) ?_;(refine De rfl rfl ?_;(refine Ly (Aa rfl) (Aa rfl) rfl rfl ?_;(repeat ((first | refine⟨_,Aw (ao rfl),?_⟩ | refine⟨_,Po rfl,?_⟩);refine⟨_,rfl,?_⟩));refine⟨_,rfl,?_⟩));refine Wq AB ?_;refine Wq AB ?_;refine WO (ao rfl) (ao rfl) rfl (Aa rfl) rfl rfl rfl ?_;refine Y0<|Y1 ?_;refine Wq AB ?_;refine Wq Ar ?_;refine Wq (AK (s)) ?_;refine Wq AB ?_;refine Wq AB ?_;refine Dd (ao rfl) (ao rfl) rfl (Aa rfl) ZbU rfl rfl ?_;refine Y0<|Y1 ?_;refine Wq AB ?_;refine Wq Ar ?_;refine Wq (AK (Z)) ?_;refine Wq AB ?_;refine Wq AB ?_;refine Wq Wk ?_;refine Dd (ao rfl) (ao rfl) rfl (Aa rfl) ZbU rfl rfl ?_;refine Y0<|Y1<|Wa<|Y0<|AWp.block ?_
 exact Zbw
abbrev zQ:RQ:=LJ ((0:Int):Rat)
abbrev pxE(V:List Int)(k:Nat):List D:=GL (ZH (λi=>Hh (if i<8 then zQ else default)) 0 (DA ((AR V k:Int):Rat)))
abbrev pxR(V:List Int)(k:Nat):List (List D):=(List.range k).map (pxE V)
theorem A4U(V:List Int)(k:Nat):pxR V (k+1)=pxR V k++[pxE V k]:=by simp[pxR,Ycv]
abbrev bxR(V:List Int)(k:Nat):List (List D):=(List.range k).map λi=>Dv (Ee V (i+1))
theorem A5R(V:List Int)(k:Nat):bxR V (k+1)=bxR V k++[Dv (Ee V (k+1))]:=by simp[bxR,Ycv]
theorem A1j(T K:Nat)(N:Nat)(L:List (Nat×List (Nat->Int)))(p:Tc L)(V:List Int)(e:I8 V)(J:V.length<=9223372036854775807)(W:Int)(E:List (List Tm))(A:E.length<=12)(F Z X R O:D)(n d r:Int)(M:List (List Tm))(m:M.length<=12):Abs prog 49 [AP (He T K N L V),AP [ex (.int .i64 W),Ba E,F],AP [ex (.int .i64 13),Z,ex (.int .i64 n),ex (.int .i64 d),ex (.int .i64 r),X,Ba M,R,O]] (AP (EJ 0 Ao Ao Ao Ao Ao Ao Ao Ao (slD 187 32 (pxR V (gN V))) (slD 131 64 (bxR V (gN V))))):=by
 have q:=Ez T L p
 have l:(AZ L).length<=6:=by
  exact ZhK
 have c:=CH K V e 4 ZbH J;have S:=Cj e 4;obtain⟨g,P⟩:∃g:Nat,g=gN V:=⟨_,rfl⟩;have s:AR V 4%4=((g:Nat):Int):=by rw[P,gN];omega
 have f:g<=3:=by omega
 try rw[<-P]
 have w:=EX 0 ZbH ZbH;refine Ab func49 λI=>?_;refine ZgX ?_;refine FV (τ:=⟨[(3,.ptr 0 0),(4,.ptr 1 0),(5,.ptr 2 0),(6,.ptr 3 0),(7,.d (Ba (AZ L))),(8,.d (ex (.int .i64 ((E.length:Nat):Int)))),(9,.ptr 4 0),(10,.d (ex (.int .i64 (g:Nat))))],[.var 58 ((He T K N L V).map .d),.var 26 (([ex (.int .i64 W),Ba E,F]:List D).map .d),.var 34 (([ex (.int .i64 13),Z,ex (.int .i64 n),ex (.int .i64 d),ex (.int .i64 r),X,Ba M,R,O]:List D).map .d),.var 46 ((EJ 0 Ao Ao Ao Ao Ao Ao Ao Ao Ao Ao).map .d),.var 46 ((EJ 0 Ao Ao Ao Ao Ao Ao Ao Ao Ao Ao).map .d)]⟩) ZbI [[],[(16,0)],[(17,1)],[],[(19,3)],[(20,4)],[],[],[(23,7)],[(24,8)],[(25,9)],[],[(18,2)],[(21,5)],[(9,11),(22,6)],[(26,10)]] [.av (.ptr 0 1),.av (.d (ZW T L)),.av (.d (Ba (AZ L))),.av (.ptr 1 1),.av (.d (Ba E)),.av (.d (ex (.int .i64 ((E.length:Nat):Int)))),.av (.d (AP (EJ 0 Ao Ao Ao Ao Ao Ao Ao Ao Ao Ao))),.av (.ptr 0 2),.av (.d (Ol K V)),.av (.d (ex (.int .i64 (AR V 4)))),.av (.d (ex (.int .i64 (g:Nat)))),.newS 46 14 (EJ 0 Ao Ao Ao Ao Ao Ao Ao Ao Ao Ao),.av (.d (Ba (AZ L))),.av (.d (ex (.int .i64 ((E.length:Nat):Int)))),.st 11,.av (.d (ex (.int .i64 (g:Nat))))] ZbI ?_ ?_ ?_
 .refine Zhn ?_;refine Zgg ?_;refine HYSteps.cons (.q rfl (Eo (r:=((g:Nat):Int)) rfl rfl ((DE (AR V 4) (j:=2) ZbD).trans s))) ?_;exact ZgJ
 .exact Zkr
 refine Yn<|Ai<|Y1 ?_;refine Wq AB ?_;refine Wq Ar ?_;refine Y0<|AWp.block<|Ai<|Y1 ?_;refine Wq AN ?_;refine Wa<|Y0<|Cf<|Y1 ?_;refine Wq AN ?_;refine Wa<|Y0<|Cf<|Y1 ?_;refine Wq AN ?_;refine Wa<|Y0<|Cf<|AWp.region ?_;refine Wq AN ?_;refine Wa<|Y0<|Cf<|Y1 ?_;refine Wq AN ?_;refine Wa<|Y0<|Cf<|Y1 ?_;refine Wq AN ?_;refine Wa<|Y0<|Cf<|Y1 ?_;refine Wq Bb ?_;refine Wa<|Y0<|Ct<|Y1<|Wa<|Y0<|AWp.block ?_
 refine Fc 187 32 ZbH ZbH rfl ?_;refine Fc 131 64 ZbH ZbH rfl ?_;refine AC (λG B=>∃k v u,k<=g/\G=g-k/\B=⟨[(3,.ptr 0 0),(4,.ptr 1 0),(5,.ptr 2 0),(6,.ptr 3 0),(7,.d (Ba (AZ L))),(8,.d (ex (.int .i64 ((E.length:Nat):Int)))),(9,.ptr 4 0),(10,.d (ex (.int .i64 (g:Nat)))),(12,.d (ex (.int .i64 (k:Nat))))],[.var 58 ((He T K N L V).map .d),.var 26 (([ex (.int .i64 W),Ba E,F]:List D).map .d),.var 34 (([ex (.int .i64 13),Z,ex (.int .i64 n),ex (.int .i64 d),ex (.int .i64 r),X,Ba M,R,O]:List D).map .d),.var 46 ((EJ 0 Ao Ao Ao Ao Ao Ao Ao Ao Ao Ao).map .d),.var 46 ((EJ 0 Ao Ao Ao Ao Ao Ao Ao Ao (ex v) (ex u)).map .d),.obj (Ma v 187 32 (pxR V k)),.obj (Ma u 131 64 (bxR V k))]⟩) ?le ⟨0,.slice none 0 0,.slice none 0 0,by omega,rfl,rfl⟩ ?round
 case le=>exact Ac Zct (by exact Yv<|Yv<|Yv<|Yv<|Yv<|HpLe.cons (OwLe.obj rfl)<|HpLe.cons (OwLe.obj rfl)<|HpLe.nil)
 case round=>
  rintro G _ ⟨k,v,u,C,rfl,rfl⟩;by_cases Q:k<g
  .have h:=Lp K V e J (k+1) ZbD
   have b:=CH K V e k ZbD J;have o:=Cj e k;have t:=EX (AR V k) ZbD ZbD;refine Go ?_;refine AC (λG B=>∃j,j<=8/\G=8-j/\B=⟨[(3,.ptr 0 0),(4,.ptr 1 0),(5,.ptr 2 0),(6,.ptr 3 0),(7,.d (Ba (AZ L))),(8,.d (ex (.int .i64 ((E.length:Nat):Int)))),(9,.ptr 4 0),(10,.d (ex (.int .i64 (g:Nat)))),(12,.d (ex (.int .i64 (k:Nat)))),(13,.ptr 7 0),(14,.d (ex (.int .i64 (j:Nat))))],[.var 58 ((He T K N L V).map .d),.var 26 (([ex (.int .i64 W),Ba E,F]:List D).map .d),.var 34 (([ex (.int .i64 13),Z,ex (.int .i64 n),ex (.int .i64 d),ex (.int .i64 r),X,Ba M,R,O]:List D).map .d),.var 46 ((EJ 0 Ao Ao Ao Ao Ao Ao Ao Ao Ao Ao).map .d),.var 46 ((EJ 0 Ao Ao Ao Ao Ao Ao Ao Ao (ex v) (ex u)).map .d),.obj (Ma v 187 32 (pxR V k)),.obj (Ma u 131 64 (bxR V k)),.var 187 ((GL λi=>Hh (if i<j then zQ else default)).map .d)]⟩) ?le2 ⟨0,by omega,rfl,rfl⟩ ?round2
   case le2=>exact Ac Zes (by exact Yv<|Yv<|Yv<|Yv<|Yv<|HpLe.cons (OwLe.obj rfl)<|HpLe.cons (OwLe.obj rfl)<|HpLe.cons (Hp QN)<|HpLe.nil)
   case round2=>
    rintro G _ ⟨j,a,rfl,rfl⟩;by_cases H:j<8
    .refine Go ?_;refine Mj (ao rfl) (ao rfl) rfl (Aa rfl) rfl (Hm (λ_=>rfl) rfl H) rfl ?_;refine Go ?_
     refine Ah (8-(j+1)) ZbD ⟨j+1,by omega,rfl,rfl⟩ ?_;exact Ac Zes (by apply Yv;apply Yv;apply Yv;apply Yv;apply Yv;refine HpLe.cons (OwLe.obj rfl) ?_;refine HpLe.cons (OwLe.obj rfl) ?_;refine HpLe.cons (OwLe.varD (A09 (c:=Hh) (x:=λ_=>zQ) (d:=λ_=>default))) ?_;exact HpLe.nil)
    .obtain rfl:j=8:=by omega
     refine Ai<|Y1<|Wm ?_;refine Wq AN ?_;refine Y0<|Cf<|Cg<|BE<|BR<|BH<|Yn<|Y1 ?_;refine Wq AB ?_;refine Wq Ar ?_;refine Wm ?_;refine Wq (AK (b)) ?_;refine Wq (AK (t)) ?_;refine Wq Wk ?_;refine Mj (ao rfl) (ao rfl) rfl (Aa rfl) rfl (Hm (i:=0) (v:=DA ((AR V k:Int):Rat)) (λ_=>rfl) rfl ZbH) rfl ?_;apply Y0
     refine A1s 4 13 15 [14,13,12,11,10,9,8,7,6,5,4,3,2,1,0] [12,11,10,9,8,7,6,5,4,3,2,1,0] [.ptr 4 26,.d (ex v),.d (AP (pxE V k)),.d (slD 187 32 [pxE V k]),.own 5,.ptr 4 27,.d (ex u),.ptr 0 2,.d (Ol K V),.d (ex (.int .i64 (k:Nat))),.d (ex (.int .i64 (k+1:Nat))),.d (AP (Dv (Ee V (k+1)))),.d (slD 131 64 [Dv (Ee V (k+1))]),.own 6,.ptr 4 26] [[],[(121,0)],[],[(123,2)],[(122,1),(124,3)],[],[(126,5)],[],[(128,7)],[],[(130,9)],[(129,8),(131,10)],[(132,11)],[(127,6),(133,12)],[]] [(3,.ptr 0 0),(4,.ptr 1 0),(5,.ptr 2 0),(6,.ptr 3 0),(7,.d (Ba (AZ L))),(8,.d (ex (.int .i64 ((E.length:Nat):Int)))),(9,.ptr 4 0),(10,.d (ex (.int .i64 (g:Nat)))),(12,.d (ex (.int .i64 (k:Nat)))),(13,.ptr 7 0)] [(125,.own 5),(134,.own 6),(135,.ptr 4 26),(3,.ptr 0 0),(4,.ptr 1 0),(5,.ptr 2 0),(6,.ptr 3 0),(7,.d (Ba (AZ L))),(8,.d (ex (.int .i64 ((E.length:Nat):Int)))),(9,.ptr 4 0),(10,.d (ex (.int .i64 (g:Nat)))),(12,.d (ex (.int .i64 (k:Nat))))] [.var 58 ((He T K N L V).map .d),.var 26 (([ex (.int .i64 W),Ba E,F]:List D).map .d),.var 34 (([ex (.int .i64 13),Z,ex (.int .i64 n),ex (.int .i64 d),ex (.int .i64 r),X,Ba M,R,O]:List D).map .d),.var 46 ((EJ 0 Ao Ao Ao Ao Ao Ao Ao Ao Ao Ao).map .d),.var 46 ((EJ 0 Ao Ao Ao Ao Ao Ao Ao Ao (ex v) (ex u)).map .d),.row 187 32 (pxR V k++[pxE V k]),.obj (Ma u 131 64 (bxR V k)),.var 187 ((pxE V k).map .d)] [.var 58 ((He T K N L V).map .d),.var 26 (([ex (.int .i64 W),Ba E,F]:List D).map .d),.var 34 (([ex (.int .i64 13),Z,ex (.int .i64 n),ex (.int .i64 d),ex (.int .i64 r),X,Ba M,R,O]:List D).map .d),.var 46 ((EJ 0 Ao Ao Ao Ao Ao Ao Ao Ao Ao Ao).map .d),.var 46 ((EJ 0 Ao Ao Ao Ao Ao Ao Ao Ao (ex v) (ex u)).map .d),.row 187 32 (pxR V k++[pxE V k]),.row 131 64 (bxR V k++[Dv (Ee V (k+1))]),.var 187 ((pxE V k).map .d)] ZbI ⟨rfl,rfl,rfl,rfl,rfl,rfl,rfl,rfl,rfl,rfl,trivial⟩ rfl rfl rfl rfl ZbI ZbI ZbI ZbI (by refine DSteps2.q rfl rfl ZbK ZbK ZbK ?_;refine DSteps2.q rfl rfl ZbK ZbK ZbK ?_;refine DSteps2.q rfl rfl ZbK ZbK ZbK ?_;refine DSteps2.q rfl rfl (Cb (ah rfl) (Aa rfl) (Aa rfl) rfl rfl rfl rfl rfl) (Cb (ah rfl) (Aa rfl) (Aa rfl) rfl rfl rfl rfl rfl) (Cb (ah rfl) (Aa rfl) (Aa rfl) rfl rfl rfl rfl rfl) ?_;refine DSteps2.k rfl (UG (DTurn.rows (id:=5) rfl rfl rfl (Aa rfl) (Aa rfl) rfl rfl rfl rfl Zip Zip) rfl rfl) ?_;refine DSteps2.q rfl rfl ZbK ZbK ZbK ?_;refine DSteps2.q rfl rfl ZbK ZbK ZbK ?_;refine DSteps2.q rfl rfl ZbK ZbK ZbK ?_;refine DSteps2.q rfl rfl ZbK ZbK ZbK ?_;refine DSteps2.q rfl rfl ZbK ZbK ZbK ?_;refine DSteps2.q rfl rfl (Ik (ah rfl) (ah rfl) ZbD) (Ik (ah rfl) (ah rfl) ZbD) (Ik (ah rfl) (ah rfl) ZbD) ?_;refine DSteps2.q rfl rfl (BP (ah rfl) h (ArgsLe.cons rfl (D.le.refl _) (ArgsLe.cons rfl (D.le.refl _) ArgsLe.nil))) (BP (ah rfl) h (ArgsLe.cons rfl (D.le.refl _) (ArgsLe.cons rfl (D.le.refl _) ArgsLe.nil))) (BP (ah rfl) h (ArgsLe.cons rfl (D.le.refl _) (ArgsLe.cons rfl (D.le.refl _) ArgsLe.nil))) ?_;refine DSteps2.q rfl rfl (Cb (ah rfl) (Aa rfl) (Aa rfl) rfl rfl rfl rfl rfl) (Cb (ah rfl) (Aa rfl) (Aa rfl) rfl rfl rfl rfl rfl) (Cb (ah rfl) (Aa rfl) (Aa rfl) rfl rfl rfl rfl rfl) ?_;refine DSteps2.l rfl rfl (UG (DTurn.rows (id:=6) rfl rfl rfl (Aa rfl) (Aa rfl) rfl rfl rfl rfl Zip Zip) rfl rfl) ?_;refine DSteps2.q rfl rfl ZbK ZbK ZbK ?_;exact DSteps2.nil) ZbI ⟨rfl,rfl,rfl,rfl,rfl,rfl,rfl,rfl,rfl,rfl,rfl,rfl,trivial⟩ ?_;refine En (ao rfl) (ao rfl) rfl (Aa rfl) (One.own rfl) rfl rfl ?_;refine Wq AB ?_;refine En (ao rfl) (ao rfl) rfl (Aa rfl) (One.own rfl) rfl rfl ?_;refine AWl.nil<|Bh<|Yn ?_;(refine FU 5 187 32 (pxR V (k+1)) (by rw[A4U];rfl) λY=>?_);(refine FU 6 131 64 (bxR V (k+1)) (by rw[A5R];rfl) λx=>?_);refine AWp.region<|Wm ?_;refine Wq CJ ?_;refine Wa<|AWl.nil ?_
     skip
     refine Ah (g-(k+1)) ZbD ⟨k+1,Y,x,by omega,rfl,rfl⟩ ?_;exact Ac Zct (by exact HpLe.cons (Ad rfl)<|HpLe.cons (Ad rfl)<|HpLe.cons (Ad rfl)<|HpLe.cons (Ad rfl)<|HpLe.cons (Ad rfl)<|HpLe.cons (OwLe.obj rfl)<|HpLe.cons (OwLe.obj rfl)<|HpLe.nil)
  .obtain rfl:k=g:=by omega
   refine DT (σ':=⟨[(3,.ptr 0 0),(4,.ptr 1 0),(5,.ptr 2 0),(6,.ptr 3 0),(7,.d (Ba (AZ L))),(8,.d (ex (.int .i64 ((E.length:Nat):Int)))),(9,.ptr 4 0),(10,.d (ex (.int .i64 (k:Nat)))),(12,.d (ex (.int .i64 (k:Nat))))],[.var 58 ((He T K N L V).map .d),.var 26 (([ex (.int .i64 W),Ba E,F]:List D).map .d),.var 34 (([ex (.int .i64 13),Z,ex (.int .i64 n),ex (.int .i64 d),ex (.int .i64 r),X,Ba M,R,O]:List D).map .d),.var 46 ((EJ 0 Ao Ao Ao Ao Ao Ao Ao Ao Ao Ao).map .d),.var 46 ((EJ 0 Ao Ao Ao Ao Ao Ao Ao Ao (slD 187 32 (pxR V k)) (slD 131 64 (bxR V k))).map .d),.dead,.dead]⟩) ?wk ?_
   case wk=>exact Ac Zcw (HpLe.cons (OwLe.varD rfl) (HpLe.cons (OwLe.varD rfl) (HpLe.cons (OwLe.varD rfl) (HpLe.cons (OwLe.varD rfl) (HpLe.cons (OwLe.cells (by repeat (first | exact CellsLe.nil | refine CellsLe.cons (AVle.rows (id:=5) rfl) ?_ | refine CellsLe.cons (AVle.rows (id:=6) rfl) ?_ | refine CellsLe.cons (AVle.d rfl) ?_))) (HpLe.cons OwLe.dead (HpLe.cons OwLe.dead HpLe.nil)))))))
   exact ZfA
structure B4(l:List Nat):Prop where
 lt:∀z∈l,z<256
 len:l.length<=40000
theorem B4.tail{c:Nat}(h:B4 (c::l)):B4 l:=⟨λz o=>h.lt z (Ybc _ o),by have:=h.len;rw[Yav]at this;omega⟩
def PG{A:Type}(p:Rd A)(D:A->Prop)(e:A->List Nat):Prop:=∀l x m,B4 l->p l=some (x,m)->D x/\B4 m/\(e x).length+m.length<=l.length
theorem Cd{f:e->Rd uz}{y:uz×List Nat}(h:vI.bind f l=.some y):∃x m,vI l=.some (x,m)/\f x m=.some y:=by
 unfold Rd.bind at h
 cases G:vI l with
 |none=>rw[G]at h;cases h
 |some z=>rw[G]at h;exact⟨z.1,z.2,rfl,h⟩
theorem A7l{m c:Nat}:(Bv (c%128+128*m)).length<=1+(Bv m).length:=by
 rw[Bv];split
 .simp
 .rw [Yav, show (c%128+128*m)/128=m by omega]
  omega
theorem A1V:∀(k s n:Nat) (l:List Nat) (x:Nat) (C:List Nat),B4 l->Nt k s n l=some (x,C)->∃m,x=n+m*s/\B4 C/\(Bv m).length+C.length<=l.length
 |0,_,_,_,_,_,_,h=>by cases h
 |k+1,s,n,[],_,_,_,h=>by cases h
 |k+1,s,n,c::l,x,C,F,h=>by
  rw[Nt]at h
  dsimp only at h
  split at h
  .cases h
  .split at h
   .rename_i I
    cases h;refine⟨c%128,rfl,F.tail,?_⟩;rw[Bv,Yan (YaT _ ZbD),Yav];exact Zip
   .obtain ⟨m,A,B,L⟩:=A1V k (s*128) _ l x C F.tail h
    refine⟨c%128+128*m,?_,B,?_⟩
    .rw [A,YbC,YbM]
     congr 1;congr 1;rw[YaM 128 m,YaY,YaM s 128]
    .have:=A7l (m:=m) (c:=c)
     rw[Yav];omega
theorem Vz:PG OM (λn=>n<18446744073709551616) Bv:=λl x C F h=>by
 obtain⟨m,A,B,L⟩:=A1V 10 1 0 l x C F h;refine⟨Fp h,B,?_⟩;rw[A,YaH,YbB];exact L
theorem Vg{C:Type}{p:Rd C}{D:C->Prop}{e:C->List Nat}(G:PG p D e):∀n,PG (Co p n) (λl=>(∀x∈l,D x)/\l.length=n) (λl=>l.flatMap e)
 |0=>λl x m F h=>by
  cases h;exact⟨⟨(λx E=>by cases E),rfl⟩,F,by simp⟩
 |n+1=>λl x m F h=>by
  obtain⟨a,c,A,B⟩:=Cd h;obtain⟨b,I,L,S⟩:=Cd B;cases S;obtain⟨K,d,Z⟩:=G l a c F A;obtain⟨⟨M,q⟩,J,s⟩:=Vg G n c b m d L;refine⟨⟨λx E=>?_,by rw[Yav,q]⟩,J,by have s:(b.flatMap e).length+m.length<=c.length:=s;show((a::b).flatMap e).length+_<=_;rw[Ydd,Yaa];omega⟩;rcases YaK.1 E with rfl | E
  .exact K
  .exact M x E
theorem Ug{c:List Nat->Bool}{u:Unit}(h:Ju c l=some (u,f)):c l=true/\f=l:=by
 unfold Ju at h;split at h
 .rename_i I
  cases h;exact⟨I,rfl⟩
 .cases h
theorem Ht(G:PG vI uj uc):PG (Ff G0 vI) (LZ uj) (Br uc):=λl x m F h=>by
 obtain⟨n,c,A,B⟩:=Cd h;obtain⟨u,a,L,S⟩:=Cd B;obtain⟨f,rfl⟩:=Ug L;have f:n<=a.length:=YdG f;obtain⟨_,d,Z⟩:=Vz l n a F A;obtain⟨⟨E,q⟩,C,s⟩:=Vg G n a x m d S;refine⟨⟨E,by rw[q];have:=d.len;omega⟩,C,?_⟩;rw[Br,Yaa,q];have s:(x.flatMap uc).length+m.length<=a.length:=s;omega
theorem A6R:PG KB (λw=>w<4294967296) Cw:=λl x m F h=>by
 match l,F,h with
 |E::C::G::q::b,F,h=>
  cases h;have c:=F.lt E ZbS;have A:=F.lt C ZbS;have B:=F.lt G ZbS;have L:=F.lt q ZbS;exact⟨by omega,F.tail.tail.tail.tail,by simp[Cw];omega⟩
 |[],_,h=>cases h
 |[_],_,h=>cases h
 |[_,_],_,h=>cases h
 |[_,_,_],_,h=>cases h
theorem A5u:PG (Qd G0) (λx=>WZ x.2) (λx=>Fw x.1 x.2):=λl x m F h=>by
 obtain⟨n,c,A,B⟩:=Cd h;obtain⟨u,a,L,S⟩:=Cd B;obtain⟨f,rfl⟩:=Ug L;have f:n/2<=a.length/4:=YdG f;obtain⟨M,G,C,E⟩:=Cd S;cases E;obtain⟨_,d,Z⟩:=Vz l n a F A;obtain⟨⟨K,q⟩,I,s⟩:=Vg A6R (n/2) a M m d C;have J:=d.len;refine⟨⟨K,by show M.length<=10000;rw[q];omega⟩,I,?_⟩;show(Fw (decide (n%2=1)) M).length+m.length<=l.length;rw[Fw,Yaa,q]
 have H:2*(n/2)+(if decide (n%2=1)=true then 1 else 0)=n:=by
  by_cases h:n%2=1
  .simp [h];omega
  .simp [h];omega
 rw[H];have s:(M.flatMap Cw).length+m.length<=a.length:=s;omega
theorem OB:PG (GK G0) QZ CC:=λl x m F h=>by
 obtain⟨a,E,A,B⟩:=Cd h;obtain⟨c,C,L,S⟩:=Cd B;cases S;obtain⟨b,d,Z⟩:=A5u l a E F A;obtain⟨I,G,s⟩:=A5u E c m d L;exact⟨⟨b,I⟩,G,by rw[CC,Yaa];have Z:(Fw a.1 a.2).length+E.length<=l.length:=Z;have s:(Fw c.1 c.2).length+m.length<=E.length:=s;show(Fw a.1 a.2).length+(Fw c.1 c.2).length+_<=_;omega⟩
theorem OJ[Inhabited e](G:PG vI uj uc):PG (KR vI) (Fz uj) (Jt uc):=λl x m F h=>by
 obtain⟨L,c,A,B⟩:=Cd h;cases B;obtain⟨⟨b,C⟩,d,Z⟩:=Vg G 8 l L m F A;refine⟨λi K=>b _ (BC ZbD),d,?_⟩
 have:Jt uc (λi=>L.getD i default)=L.flatMap uc:=by
  match L,C with
  |[W,H,r,O,N,E,Q,R],_=>rfl
 rw[this];exact Z
theorem Ki:PG (If G0) IW Bo:=λl x m F h=>by
 obtain⟨n,c,A,B⟩:=Cd h;cases B;obtain⟨b,d,Z⟩:=Vz l n m F A
 have E:IW (if n%2=0 then((n/2:Nat):Int)else -((n/2:Nat):Int)-1)/\RF (if n%2=0 then((n/2:Nat):Int)else -((n/2:Nat):Int)-1)=n:=by
  unfold IW RF;split<;>(refine⟨by omega,?_⟩;split<;>omega)
 exact⟨E.1,d,by rw[Bo,E.2];exact Z⟩
theorem A9O:PG (Qf G0) (λ_=>True) (λz=>Bv (u64 z)):=λl x m F h=>by
 obtain⟨n,c,A,B⟩:=Cd h;obtain⟨b,d,Z⟩:=Vz l n c F A;split at B
 .cases B
  refine⟨trivial,d,?_⟩;show(Bv (u64 (n:Int))).length+_<=_;rw[show u64 (n:Int)=n by unfold u64;omega];exact Z
 .cases B
theorem A6Y:PG (IT G0) TZ Es:=λl x C F h=>by
 obtain⟨q,c,A,B⟩:=Cd h;obtain⟨m,a,L,S⟩:=Cd B;cases S;obtain⟨b,d,Z⟩:=OB l q c F A;obtain⟨_,E,s⟩:=OJ A9O c m C d L;exact⟨⟨b.n,b.d⟩,E,by rw[Es,Yaa];have Z:(Fw q.b q.l++Fw q.b' q.l').length+c.length<=l.length:=Z;dsimp only;omega⟩
theorem Vo:PG (HD G0) PZ CB:=λl x m F h=>by
 obtain⟨d,b,e⟩:=Ht A6Y l x m F h;exact⟨⟨d.e,d.n⟩,b,e⟩
theorem JJ:PG (EL G0) (LZ PZ) Bf:=Ht Vo
theorem Rb:PG (MB G0) (LZ (LZ PZ)) BJ:=Ht JJ
theorem Xz:PG (MF G0) (LZ (Fz IW)) Cs:=Ht (OJ Ki)
theorem A4i:PG (QR G0) (LZ QZ) Ge:=Ht OB
theorem A8F:PG (Tk G0) VZ GC:=λl x m F h=>by
 obtain⟨a,E,A,B⟩:=Cd h;obtain⟨c,C,L,S⟩:=Cd B;cases S;obtain⟨b,d,Z⟩:=OB l a E F A;obtain⟨I,G,s⟩:=OB E c m d L;exact⟨⟨b,I⟩,G,by rw[GC,Yaa];dsimp only;omega⟩
theorem YI:PG (MO G0) (LZ (Fz VZ)) EQ:=Ht (OJ A8F)
theorem Ab3:PG (ZP G0) SZ JD:=λl x m F h=>by
 obtain⟨a,E,A,B⟩:=Cd h;obtain⟨c,C,L,S⟩:=Cd B;cases S;obtain⟨b,d,Z⟩:=OB l a E F A;obtain⟨I,G,s⟩:=Vo E c m d L;exact⟨⟨b,I⟩,G,by rw[JD,Yaa];dsimp only;omega⟩
theorem A9c:PG (Rp G0) (Fz IW) Gi:=OJ Ki
theorem A9s:PG (Ff G0 (If G0)) (LZ IW) (Br Bo):=Ht Ki
theorem A6U:PG (KR (QR G0)) (Fz (LZ QZ)) (Jt Ge):=OJ A4i
theorem A9E:PG (Ff G0 (Tk G0)) (LZ VZ) (Br GC):=Ht A8F
theorem A92:PG (Ff G0 (ZP G0)) (LZ SZ) (Br JD):=Ht Ab3
theorem A9j:PG (Ff G0 (ptP G0)) (LZ (Fz QZ)) (Br Pz):=Ht (OJ OB)
theorem Aa0:PG (VQ G0) CZ FS:=λl x m F h=>by
 have c:=h;obtain⟨I,C,U,A⟩:=Cd c;obtain⟨r,a,P,B⟩:=Cd A;obtain⟨O,E,n,L⟩:=Cd B;cases L;obtain⟨b,d,Z⟩:=Ki l I C F U;obtain⟨J,G,s⟩:=JJ C r a d P;obtain⟨q,K,H⟩:=JJ a O m G n;exact⟨⟨b,J,q⟩,K,by simp only[FS,Yaa];omega⟩
theorem Aa3:PG (Mo G0) ClZ Ii:=λl x m F h=>by
 have c:=h;obtain⟨J,E,U,A⟩:=Cd c;obtain⟨r,a,P,B⟩:=Cd A;obtain⟨W,G,M,L⟩:=Cd B;obtain⟨a4,j,i,S⟩:=Cd L;obtain⟨a5,o,V,n⟩:=Cd S;obtain⟨a6,p,v,C⟩:=Cd n;obtain⟨a7,t,p7,g⟩:=Cd C;obtain⟨a8,u,p8,y⟩:=Cd g;obtain⟨a9,l9,p9,Q⟩:=Cd y;cases Q;obtain⟨b,d,Z⟩:=Ki l J E F U;obtain⟨N,I,s⟩:=Vo E r a d P;obtain⟨q,X,H⟩:=Ki a W G I M;obtain⟨d4,b4,K⟩:=Ki G a4 j X i;obtain⟨d5,T,f⟩:=Ki j a5 o b4 V;obtain⟨d6,Y,O⟩:=Xz o a6 p T v;obtain⟨d7,b7,R⟩:=JJ p a7 t Y p7;obtain⟨d8,z,w⟩:=A9s t a8 u b7 p8;obtain⟨d9,k,e⟩:=YI u a9 m z p9;exact⟨⟨b,N,q,d4,d5,d6,d7,d8,d9⟩,k,by simp only[Ii,Yaa];omega⟩
theorem A9a:PG (Vc G0) RZ Js:=λl x m F h=>by
 have c:=h;obtain⟨I,C,U,A⟩:=Cd c;obtain⟨r,a,P,B⟩:=Cd A;obtain⟨O,E,n,L⟩:=Cd B;cases L;obtain⟨b,d,Z⟩:=A9c l I C F U;obtain⟨J,G,s⟩:=A4i C r a d P;obtain⟨q,K,H⟩:=A6U a O m G n;exact⟨⟨b,J,q⟩,K,by simp only[Js,Yaa];omega⟩
theorem A9X:PG (Ko G0) CrZ JU:=λl x m F h=>by
 have c:=h;obtain⟨M,E,U,A⟩:=Cd c;obtain⟨r,a,P,B⟩:=Cd A;obtain⟨Y,I,N,L⟩:=Cd B;obtain⟨a4,t,i,S⟩:=Cd L;obtain⟨a5,l5,X,n⟩:=Cd S;obtain⟨a6,l6,v,C⟩:=Cd n;obtain⟨a7,l7,p7,g⟩:=Cd C;obtain⟨a8,l8,p8,y⟩:=Cd g;obtain⟨a9,l9,p9,Q⟩:=Cd y;obtain⟨xc,xa,xm,W⟩:=Cd Q;obtain⟨xd,xb,xn,G⟩:=Cd W;obtain⟨xe,xi,xo,o⟩:=Cd G;cases o;obtain⟨b,d,Z⟩:=Ki l M E F U;obtain⟨O,J,s⟩:=JJ E r a d P;obtain⟨q,e,H⟩:=JJ a Y I J N;obtain⟨d4,b4,K⟩:=Xz I a4 t e i;obtain⟨d5,b5,f⟩:=Rb t a5 l5 b4 X;obtain⟨d6,k,R⟩:=Rb l5 a6 l6 b5 v;obtain⟨d7,b7,V⟩:=Rb l6 a7 l7 k p7;obtain⟨d8,b8,w⟩:=A9a l7 a8 l8 b7 p8;obtain⟨d9,u,p⟩:=A9E l8 a9 l9 b8 p9;obtain⟨xj,xf,j⟩:=A92 l9 xc xa u xm;obtain⟨xk,xg,z⟩:=A9j xa xd xb xf xn;obtain⟨xl,xh,T⟩:=YI xb xe m xg xo;exact⟨⟨b,O,q,d4,d5,d6,d7,d8,d9,xj,xk,xl⟩,xh,by simp only[JU,Yaa];omega⟩
theorem A9M:PG (OU G0) FZ ED:=λl x m F h=>by
 have c:=h;obtain⟨I,C,U,A⟩:=Cd c;obtain⟨r,a,P,B⟩:=Cd A;obtain⟨O,E,n,L⟩:=Cd B;cases L;obtain⟨b,d,Z⟩:=Aa0 l I C F U;obtain⟨J,G,s⟩:=Aa3 C r a d P;obtain⟨q,K,H⟩:=A9X a O m G n;exact⟨⟨b,J,q⟩,K,by simp only[ED,Yaa];omega⟩
