/- Part 30. No condition. -/
import Derived.Test.YtcikkglcoeedlaaGreatDm18
import Derived.Test.YtcikkglcoeedlaaGreatDm20
import Derived.Test.YtcikkglcoeedlaaGreatDm21
import Derived.Test.YtcikkglcoeedlaaGreatDm28
import Derived.Test.YtcikkglcoeedlaaGreatDm29
set_option linter.all false
set_option maxRecDepth 100000
set_option maxHeartbeats 4000000
namespace Go.Proofs.YtcikkglcoeedlaaGreat
open _root_.Go.Proofs.Tryz
variable{o:Bool}{a:Int}{vN:List (List Tm)}{vr:List Int}{vc:List Tm}{n:Nat}{vD:Rat}{vL:Tm}
section
open Go.RowKit
def pP(Q:List (List Tm))(i:Nat):List Tm:=if Q.length=0 then[]else Q.getD (i%Q.length) default
abbrev VE(Q:List (List Tm))(V:List Int)(k:Nat):List (List D):=(List.range k).map λi=>DE (Rat.divInt (AR V i) 5)++[BS (pP Q i)]
theorem XR(Q:List (List Tm))(V:List Int)(k:Nat):VE Q V (k+1)=VE Q V k++[DE (Rat.divInt (AR V k) 5)++[BS (pP Q k)]]:=by simp[VE,YcB]
theorem A4A(T t:Nat)(M:Nat)(L:List (Nat×List (Nat->Int)))(s:TM L)(V:List Int)(f:I8 V)(I:V.length<=9223372036854775807)(W:Int)(E:List (List Tm))(Z:E.length<=12)(F G Y S C:D)(n d r:Int)(p:List (List Tm))(b:p.length<=12)(A:Int)(j:A=9):Abs prog 49 [AP (Hr T t M L V),AP [eI W,Bb E,F],AP [eI A,G,eI n,eI d,eI r,Y,Bb p,S,C]] (AP (EN 0 (Bb (pQ (Ba L) 1 E.length)) Aq Aq Aq Aq Aq Aq (slD 184 5 (VE (Ba L) V (gN V))) Aq Aq)):=by
 have a:=EB T L s
 have m:(Ba L).length<=6:=by
  exact ZhY
 have K:=CI t V f 4 ZbH I;have Q:=Cj f 4;obtain⟨g,R⟩:∃g:Nat,g=gN V:=⟨_,rfl⟩;have c:AR V 4%4=((g:Nat):Int):=Zjj
 have N:g<=3:=by omega
 try rw[<-R]
 have i:=Ex (Ba L) 1 E.length ZbH ZbC ZbC;refine Ab func49 λy=>?_;refine Zhg ?_;refine Gg (τ:=⟨[(3,.ptr 0 0),(4,.ptr 1 0),(5,.ptr 2 0),(6,.ptr 3 0),(7,.d (Bb (Ba L))),(8,.d (eN E.length)),(9,.ptr 4 0),(10,.d (eN g))],[.var 58 ((Hr T t M L V).map .d),.var 26 (([eI W,Bb E,F]:List D).map .d),.var 34 (([eI A,G,eI n,eI d,eI r,Y,Bb p,S,C]:List D).map .d),.var 46 ((EN 0 Aq Aq Aq Aq Aq Aq Aq Aq Aq Aq).map .d),.var 46 ((EN 0 Aq Aq Aq Aq Aq Aq Aq Aq Aq Aq).map .d)]⟩) ZbG [.av (.ptr 0 1),.av (.d (rwD T L)),.av (.d (Bb (Ba L))),.av (.ptr 1 1),.av (.d (Bb E)),.av (.d (eN E.length)),.av (.d (AP (EN 0 Aq Aq Aq Aq Aq Aq Aq Aq Aq Aq))),.av (.ptr 0 2),.av (.d (OR t V)),.av (.d (eI (AR V 4))),.av (.d (eN g)),.newS 46 14 (EN 0 Aq Aq Aq Aq Aq Aq Aq Aq Aq Aq),.av (.d (Bb (Ba L))),.av (.d (eN E.length)),.st 11,.av (.d (eN g))] ZbG ?_ ?_ ?_
 .refine Zgr ?_;refine Zhw ?_;refine Zgl ?_;exact Zho
 .exact ZkK
 refine Yn<|Ah<|Y1 ?_;refine Wq AB ?_;refine Wq As ?_;refine Y0<|AWp.block<|Ah<|Y1 ?_;refine Wq AL ?_;refine Wa<|Y0<|Cf<|Y1 ?_;refine Wq AL ?_;refine Wa<|Y0<|Cf<|Y1 ?_;refine Wq Bc ?_;refine Wa<|Y0<|Ct<|Ys<|Ct<|Y1<|Wm<|Wm ?_;refine Wq (AJ (i)) ?_;refine Wq AB ?_;refine Dg (ao rfl) (ao rfl) rfl (Aa rfl) ZbS rfl rfl ?_;refine Y0<|Ah<|Y1 ?_;refine Wq AB ?_;refine Wq As ?_;refine Wq AL ?_;refine Y0<|Cf<|Ys<|Y1<|Wa<|Y0<|AWp.block ?_
 exact Zbu
theorem A1X(T t:Nat)(M:Nat)(L:List (Nat×List (Nat->Int)))(s:TM L)(V:List Int)(f:I8 V)(I:V.length<=9223372036854775807)(W:Int)(E:List (List Tm))(Z:E.length<=12)(F G Y S C:D)(n d r:Int)(p:List (List Tm))(b:p.length<=12)(A:Int)(j:A=10):Abs prog 49 [AP (Hr T t M L V),AP [eI W,Bb E,F],AP [eI A,G,eI n,eI d,eI r,Y,Bb p,S,C]] (AP (EN 0 (Bb (pQ (Ba L) 1 E.length)) Aq Aq Aq Aq Aq Aq (slD 184 5 (VE (Ba L) V (gN V))) Aq Aq)):=by
 have a:=EB T L s
 have m:(Ba L).length<=6:=by
  exact ZhY
 have K:=CI t V f 4 ZbH I;have Q:=Cj f 4;obtain⟨g,R⟩:∃g:Nat,g=gN V:=⟨_,rfl⟩;have c:AR V 4%4=((g:Nat):Int):=Zjj
 have N:g<=3:=by omega
 try rw[<-R]
 have i:=Ex (Ba L) 1 E.length ZbH ZbC ZbC;refine Ab func49 λy=>?_;refine Zhg ?_;refine Gg (τ:=⟨[(3,.ptr 0 0),(4,.ptr 1 0),(5,.ptr 2 0),(6,.ptr 3 0),(7,.d (Bb (Ba L))),(8,.d (eN E.length)),(9,.ptr 4 0),(10,.d (eN g))],[.var 58 ((Hr T t M L V).map .d),.var 26 (([eI W,Bb E,F]:List D).map .d),.var 34 (([eI A,G,eI n,eI d,eI r,Y,Bb p,S,C]:List D).map .d),.var 46 ((EN 0 Aq Aq Aq Aq Aq Aq Aq Aq Aq Aq).map .d),.var 46 ((EN 0 Aq Aq Aq Aq Aq Aq Aq Aq Aq Aq).map .d)]⟩) ZbG [.av (.ptr 0 1),.av (.d (rwD T L)),.av (.d (Bb (Ba L))),.av (.ptr 1 1),.av (.d (Bb E)),.av (.d (eN E.length)),.av (.d (AP (EN 0 Aq Aq Aq Aq Aq Aq Aq Aq Aq Aq))),.av (.ptr 0 2),.av (.d (OR t V)),.av (.d (eI (AR V 4))),.av (.d (eN g)),.newS 46 14 (EN 0 Aq Aq Aq Aq Aq Aq Aq Aq Aq Aq),.av (.d (Bb (Ba L))),.av (.d (eN E.length)),.st 11,.av (.d (eN g))] ZbG ?_ ?_ ?_
 .refine Zgr ?_;refine Zhw ?_;refine Zgl ?_;exact Zho
 .exact ZkK
 refine Yn<|Ah<|Y1 ?_;refine Wq AB ?_;refine Wq As ?_;refine Y0<|AWp.block<|Ah<|Y1 ?_;refine Wq AL ?_;refine Wa<|Y0<|Cf<|Y1 ?_;refine Wq AL ?_;refine Wa<|Y0<|Cf<|Y1 ?_;refine Wq AL ?_;refine Wa<|Y0<|Cf<|AWp.region ?_;refine Wq Bc ?_;refine Wa<|Y0<|Ct<|Y1<|Wm<|Wm ?_;refine Wq (AJ (i)) ?_;refine Wq AB ?_;refine Dg (ao rfl) (ao rfl) rfl (Aa rfl) ZbS rfl rfl ?_;refine Y0<|Ah<|Y1 ?_;refine Wq AB ?_;refine Wq As ?_;refine Wq AL ?_;refine Y0<|Cf<|Ys<|Y1<|Wa<|Y0<|AWp.block ?_
 exact Zbu
abbrev ctR(g o c q s d m b a:D):List D:=[eI 0,Aq,g,o,c,q,s,eI 1,d,i0D,i0D,i0D,i0D,i0D,i0D,m,Aq,b,Aq,Aq,Aq,Aq,Aq,Aq,a,Aq,Aq,Aq]
abbrev WT(V:List Int)(k:Nat):List (List D):=(List.range k).map λi=>Ju (Eg V i 0)
theorem Zr(V:List Int)(k:Nat):WT V (k+1)=WT V k++[Ju (Eg V k 0)]:=by simp[WT,YcB]
theorem A4C(T t:Nat)(M:Nat)(L:List (Nat×List (Nat->Int)))(s:TM L)(V:List Int)(f:I8 V)(I:V.length<=9223372036854775807)(W:Int)(E:List (List Tm))(Z:E.length<=12)(F C Y S A:D)(n d r:Int)(p:List (List Tm))(a:p.length<=12)(P:Int)(h:P=7):Abs prog 49 [AP (Hr T t M L V),AP [eI W,Bb E,F],AP [eI P,C,eI n,eI d,eI r,Y,Bb p,S,A]] (AP (ctR (Bb (pQ (Ba L) 0 (gN V))) (Er (CW (gN V))) (FC (GJ (Ba L) E.length (gN V))) (FC (GJ (Ba L) (gN V) E.length)) (FC (GJ (Ba L) (gN V) ((gN V)*((gN V)-1)/2))) (eI (AR V 5)) (Re (La V 3)) (Re (La V 2)) (slD 129 8 (WT V (gN V))))):=by
 have K:=EB T L s
 have m:(Ba L).length<=6:=by
  exact ZhY
 have G:=CI t V f 4 ZbH I;have Q:=Cj f 4;obtain⟨g,R⟩:∃g:Nat,g=gN V:=⟨_,rfl⟩;have b:AR V 4%4=((g:Nat):Int):=Zjj
 have J:g<=3:=by omega
 try rw[<-R]
 have i:=Nv (Ba L) g E.length J ZbC ZbC;have c:=CI t V f 5 ZbH I;have j:=ME t V f 3 ZbH I;have q:=ME t V f 2 ZbH I;refine Ab func49 λy=>?_;refine Zhg ?_;refine Gg (τ:=⟨[(3,.ptr 0 0),(4,.ptr 1 0),(5,.ptr 2 0),(6,.ptr 3 0),(7,.d (Bb (Ba L))),(8,.d (eN E.length)),(9,.ptr 4 0),(10,.d (eN g))],[.var 58 ((Hr T t M L V).map .d),.var 26 (([eI W,Bb E,F]:List D).map .d),.var 34 (([eI P,C,eI n,eI d,eI r,Y,Bb p,S,A]:List D).map .d),.var 46 ((EN 0 Aq Aq Aq Aq Aq Aq Aq Aq Aq Aq).map .d),.var 46 ((EN 0 Aq Aq Aq Aq Aq Aq Aq Aq Aq Aq).map .d)]⟩) ZbG [.av (.ptr 0 1),.av (.d (rwD T L)),.av (.d (Bb (Ba L))),.av (.ptr 1 1),.av (.d (Bb E)),.av (.d (eN E.length)),.av (.d (AP (EN 0 Aq Aq Aq Aq Aq Aq Aq Aq Aq Aq))),.av (.ptr 0 2),.av (.d (OR t V)),.av (.d (eI (AR V 4))),.av (.d (eN g)),.newS 46 14 (EN 0 Aq Aq Aq Aq Aq Aq Aq Aq Aq Aq),.av (.d (Bb (Ba L))),.av (.d (eN E.length)),.st 11,.av (.d (eN g))] ZbG ?_ ?_ ?_
 .refine Zgs ?_;refine Zhw ?_;refine Zfw ?_;refine Zgv ?_;exact ZgQ
 .exact ZkK
 refine Yn<|Ah<|Y1 ?_;refine Wq AB ?_;refine Wq As ?_;refine Y0<|AWp.block<|Ah<|Y1 ?_;refine Wq AL ?_;refine Wa<|Y0<|Cf<|Y1 ?_;refine Wq AL ?_;refine Wa<|Y0<|Cf<|Y1 ?_;refine Wq AL ?_;refine Wa<|Y0<|Cf<|AWp.region ?_;refine Wq AL ?_;refine Wa<|Y0<|Cf<|Y1 ?_;refine Wq AL ?_;refine Wa<|Y0<|Cf<|Y1 ?_;refine Wq AL ?_;refine Wa<|Y0<|Cf<|Y1 ?_;refine Wq AL ?_;refine Wa<|Y0<|Cf<|AWp.region ?_;refine Wq AF ?_;refine Wm<|Wm<|Wm ?_;refine Wq (AJ (i)) ?_;refine Sf ?_;refine AWl.nil<|Bg<|Yn<|Ah<|Y1 ?_;refine Wq AB ?_;refine Wq As ?_;refine Wq Bc ?_;refine Wm ?_;refine Ws ?_;refine Ws ?_;refine Ws ?_;refine Wq Cw ?_;refine Y0<|Ct<|Y1 ?_;refine Wq AB ?_;refine Wq As ?_;refine Wq (AJ (c)) ?_;(refine De rfl rfl ?_;(refine Mh (Aa rfl) (Aa rfl) rfl rfl ?_;(repeat ((first | refine⟨_,Ar (ao rfl),?_⟩ | refine⟨_,Po rfl,?_⟩);refine⟨_,rfl,?_⟩));refine⟨_,rfl,?_⟩));refine Wq AB ?_;refine Wq AB ?_;refine XF (ao rfl) (ao rfl) rfl (Aa rfl) rfl rfl rfl ?_;refine Y0<|Y1 ?_;refine Wq AB ?_;refine Wq As ?_;refine Wq (AJ (j)) ?_;refine Wq AB ?_;refine Wq AB ?_;refine Dg (ao rfl) (ao rfl) rfl (Aa rfl) ZbS rfl rfl ?_;refine Y0<|Y1 ?_;refine Wq AB ?_;refine Wq As ?_;refine Wq (AJ (q)) ?_;refine Wq AB ?_;refine Wq AB ?_;refine Wq Xd ?_;refine Dg (ao rfl) (ao rfl) rfl (Aa rfl) ZbS rfl rfl ?_;refine Y0<|Y1<|Wa<|Y0<|AWp.block ?_
 exact Zbv
theorem A4B(T t:Nat)(M:Nat)(L:List (Nat×List (Nat->Int)))(s:TM L)(V:List Int)(f:I8 V)(I:V.length<=9223372036854775807)(W:Int)(E:List (List Tm))(Z:E.length<=12)(F C Y S A:D)(n d r:Int)(p:List (List Tm))(a:p.length<=12)(P:Int)(h:P=8):Abs prog 49 [AP (Hr T t M L V),AP [eI W,Bb E,F],AP [eI P,C,eI n,eI d,eI r,Y,Bb p,S,A]] (AP (ctR (Bb (pQ (Ba L) 0 (gN V))) (Er (CW (gN V))) (FC (GJ (Ba L) E.length (gN V))) (FC (GJ (Ba L) (gN V) E.length)) (FC (GJ (Ba L) (gN V) ((gN V)*((gN V)-1)/2))) (eI (AR V 5)) (Re (La V 3)) (Re (La V 2)) (slD 129 8 (WT V (gN V))))):=by
 have K:=EB T L s
 have m:(Ba L).length<=6:=by
  exact ZhY
 have G:=CI t V f 4 ZbH I;have Q:=Cj f 4;obtain⟨g,R⟩:∃g:Nat,g=gN V:=⟨_,rfl⟩;have b:AR V 4%4=((g:Nat):Int):=Zjj
 have J:g<=3:=by omega
 try rw[<-R]
 have i:=Nv (Ba L) g E.length J ZbC ZbC;have c:=CI t V f 5 ZbH I;have j:=ME t V f 3 ZbH I;have q:=ME t V f 2 ZbH I;refine Ab func49 λy=>?_;refine Zhg ?_;refine Gg (τ:=⟨[(3,.ptr 0 0),(4,.ptr 1 0),(5,.ptr 2 0),(6,.ptr 3 0),(7,.d (Bb (Ba L))),(8,.d (eN E.length)),(9,.ptr 4 0),(10,.d (eN g))],[.var 58 ((Hr T t M L V).map .d),.var 26 (([eI W,Bb E,F]:List D).map .d),.var 34 (([eI P,C,eI n,eI d,eI r,Y,Bb p,S,A]:List D).map .d),.var 46 ((EN 0 Aq Aq Aq Aq Aq Aq Aq Aq Aq Aq).map .d),.var 46 ((EN 0 Aq Aq Aq Aq Aq Aq Aq Aq Aq Aq).map .d)]⟩) ZbG [.av (.ptr 0 1),.av (.d (rwD T L)),.av (.d (Bb (Ba L))),.av (.ptr 1 1),.av (.d (Bb E)),.av (.d (eN E.length)),.av (.d (AP (EN 0 Aq Aq Aq Aq Aq Aq Aq Aq Aq Aq))),.av (.ptr 0 2),.av (.d (OR t V)),.av (.d (eI (AR V 4))),.av (.d (eN g)),.newS 46 14 (EN 0 Aq Aq Aq Aq Aq Aq Aq Aq Aq Aq),.av (.d (Bb (Ba L))),.av (.d (eN E.length)),.st 11,.av (.d (eN g))] ZbG ?_ ?_ ?_
 .refine Zgs ?_;refine Zhw ?_;refine Zfw ?_;refine Zgv ?_;exact ZgQ
 .exact ZkK
 refine Yn<|Ah<|Y1 ?_;refine Wq AB ?_;refine Wq As ?_;refine Y0<|AWp.block<|Ah<|Y1 ?_;refine Wq AL ?_;refine Wa<|Y0<|Cf<|Y1 ?_;refine Wq AL ?_;refine Wa<|Y0<|Cf<|Y1 ?_;refine Wq AL ?_;refine Wa<|Y0<|Cf<|AWp.region ?_;refine Wq AL ?_;refine Wa<|Y0<|Cf<|Y1 ?_;refine Wq AL ?_;refine Wa<|Y0<|Cf<|Y1 ?_;refine Wq AL ?_;refine Wa<|Y0<|Cf<|Y1 ?_;refine Wq AL ?_;refine Wa<|Y0<|Cf<|AWp.region ?_;refine Wq AF ?_;refine Wm<|Wm<|Wm ?_;refine Wq (AJ (i)) ?_;refine Sf ?_;refine AWl.nil<|Bg<|Yn<|Ah<|Y1 ?_;refine Wq AB ?_;refine Wq As ?_;refine Wq AL ?_;refine Wm ?_;refine Wg AB ?_;refine Wg As ?_;refine Wg Bc ?_;refine Wq BT ?_;refine Y0<|Ct<|Y1 ?_;refine Wq AB ?_;refine Wq As ?_;refine Wq (AJ (c)) ?_;(refine De rfl rfl ?_;(refine Mh (Aa rfl) (Aa rfl) rfl rfl ?_;(repeat ((first | refine⟨_,Ar (ao rfl),?_⟩ | refine⟨_,Po rfl,?_⟩);refine⟨_,rfl,?_⟩));refine⟨_,rfl,?_⟩));refine Wq AB ?_;refine Wq AB ?_;refine XF (ao rfl) (ao rfl) rfl (Aa rfl) rfl rfl rfl ?_;refine Y0<|Y1 ?_;refine Wq AB ?_;refine Wq As ?_;refine Wq (AJ (j)) ?_;refine Wq AB ?_;refine Wq AB ?_;refine Dg (ao rfl) (ao rfl) rfl (Aa rfl) ZbS rfl rfl ?_;refine Y0<|Y1 ?_;refine Wq AB ?_;refine Wq As ?_;refine Wq (AJ (q)) ?_;refine Wq AB ?_;refine Wq AB ?_;refine Wq Xd ?_;refine Dg (ao rfl) (ao rfl) rfl (Aa rfl) ZbS rfl rfl ?_;refine Y0<|Y1<|Wa<|Y0<|AWp.block ?_
 exact Zbv
abbrev zQ:RQ:=Mq ((0:Int):Rat)
abbrev pxE(V:List Int)(k:Nat):List D:=GY (upF (λi=>Hv (if i<8 then zQ else default)) 0 (DE ((AR V k:Int):Rat)))
abbrev pxR(V:List Int)(k:Nat):List (List D):=(List.range k).map (pxE V)
theorem A5D(V:List Int)(k:Nat):pxR V (k+1)=pxR V k++[pxE V k]:=by simp[pxR,YcB]
abbrev bxR(V:List Int)(k:Nat):List (List D):=(List.range k).map λi=>DB (Eg V (i+1))
theorem A6D(V:List Int)(k:Nat):bxR V (k+1)=bxR V k++[DB (Eg V (k+1))]:=by simp[bxR,YcB]
theorem A1U(T t:Nat)(M:Nat)(L:List (Nat×List (Nat->Int)))(s:TM L)(V:List Int)(f:I8 V)(I:V.length<=9223372036854775807)(W:Int)(E:List (List Tm))(Z:E.length<=12)(F G Y S C:D)(n d r:Int)(p:List (List Tm))(h:p.length<=12):Abs prog 49 [AP (Hr T t M L V),AP [eI W,Bb E,F],AP [eI 13,G,eI n,eI d,eI r,Y,Bb p,S,C]] (AP (EN 0 Aq Aq Aq Aq Aq Aq Aq Aq (slD 187 32 (pxR V (gN V))) (slD 131 64 (bxR V (gN V))))):=by
 have c:=EB T L s
 have m:(Ba L).length<=6:=by
  exact ZhY
 have K:=CI t V f 4 ZbH I;have Q:=Cj f 4;obtain⟨g,R⟩:∃g:Nat,g=gN V:=⟨_,rfl⟩;have o:AR V 4%4=((g:Nat):Int):=Zjj
 have N:g<=3:=by omega
 try rw[<-R]
 have z:=Fa 0 ZbH ZbH;refine Ab func49 λy=>?_;refine Zhg ?_;refine Gg (τ:=⟨[(3,.ptr 0 0),(4,.ptr 1 0),(5,.ptr 2 0),(6,.ptr 3 0),(7,.d (Bb (Ba L))),(8,.d (eN E.length)),(9,.ptr 4 0),(10,.d (eN g))],[.var 58 ((Hr T t M L V).map .d),.var 26 (([eI W,Bb E,F]:List D).map .d),.var 34 (([eI 13,G,eI n,eI d,eI r,Y,Bb p,S,C]:List D).map .d),.var 46 ((EN 0 Aq Aq Aq Aq Aq Aq Aq Aq Aq Aq).map .d),.var 46 ((EN 0 Aq Aq Aq Aq Aq Aq Aq Aq Aq Aq).map .d)]⟩) ZbG [.av (.ptr 0 1),.av (.d (rwD T L)),.av (.d (Bb (Ba L))),.av (.ptr 1 1),.av (.d (Bb E)),.av (.d (eN E.length)),.av (.d (AP (EN 0 Aq Aq Aq Aq Aq Aq Aq Aq Aq Aq))),.av (.ptr 0 2),.av (.d (OR t V)),.av (.d (eI (AR V 4))),.av (.d (eN g)),.newS 46 14 (EN 0 Aq Aq Aq Aq Aq Aq Aq Aq Aq Aq),.av (.d (Bb (Ba L))),.av (.d (eN E.length)),.st 11,.av (.d (eN g))] ZbG ?_ ?_ ?_
 .refine Zfw ?_;refine HYSteps.cons (.q rfl (BO rfl c (ArgsLe.cons rfl (D.le.refl _) (ArgsLe.cons rfl (D.le.refl _) (ArgsLe.cons rfl (D.le.refl _) (ArgsLe.cons rfl (D.le.refl _) (ArgsLe.cons rfl (D.le.refl _) ArgsLe.nil))))))) ?_;refine Zhw ?_;refine Zgl ?_;refine HYSteps.cons (.q rfl (Ep (r:=((g:Nat):Int)) rfl rfl ((DJ (AR V 4) (j:=2) ZbC).trans o))) ?_;exact ZgQ
 .exact ZkK
 refine Yn<|Ah<|Y1 ?_;refine Wq AB ?_;refine Wq As ?_;refine Y0<|AWp.block<|Ah<|Y1 ?_;refine Wq AL ?_;refine Wa<|Y0<|Cf<|Y1 ?_;refine Wq AL ?_;refine Wa<|Y0<|Cf<|Y1 ?_;refine Wq AL ?_;refine Wa<|Y0<|Cf<|AWp.region ?_;refine Wq AL ?_;refine Wa<|Y0<|Cf<|Y1 ?_;refine Wq AL ?_;refine Wa<|Y0<|Cf<|Y1 ?_;refine Wq AL ?_;refine Wa<|Y0<|Cf<|Y1 ?_;refine Wq Bc ?_;refine Wa<|Y0<|Ct<|Y1<|Wa<|Y0<|AWp.block ?_
 refine Fh 187 32 ZbH ZbH rfl ?_;refine Fh 131 64 ZbH ZbH rfl ?_;refine AC (λw e=>∃k v u,k<=g/\w=g-k/\e=⟨[(3,.ptr 0 0),(4,.ptr 1 0),(5,.ptr 2 0),(6,.ptr 3 0),(7,.d (Bb (Ba L))),(8,.d (eN E.length)),(9,.ptr 4 0),(10,.d (eN g)),(12,.d (eN k))],[.var 58 ((Hr T t M L V).map .d),.var 26 (([eI W,Bb E,F]:List D).map .d),.var 34 (([eI 13,G,eI n,eI d,eI r,Y,Bb p,S,C]:List D).map .d),.var 46 ((EN 0 Aq Aq Aq Aq Aq Aq Aq Aq Aq Aq).map .d),.var 46 ((EN 0 Aq Aq Aq Aq Aq Aq Aq Aq (ex v) (ex u)).map .d),.obj (LX v 187 32 (pxR V k)),.obj (LX u 131 64 (bxR V k))]⟩) ?le ⟨0,.slice none 0 0,.slice none 0 0,by omega,rfl,rfl⟩ ?round
 case le=>exact Ac Zct (by exact Yv<|Yv<|Yv<|Yv<|Yv<|HpLe.cons (OwLe.obj rfl)<|HpLe.cons (OwLe.obj rfl)<|HpLe.nil)
 case round=>
  rintro w _ ⟨k,v,u,B,rfl,rfl⟩;by_cases O:k<g
  .have b:=LW t V f I (k+1) ZbC
   have J:=CI t V f k ZbC I;have q:=Cj f k;have x:=Fa (AR V k) ZbC ZbC;refine Go ?_;refine AC (λw e=>∃j,j<=8/\w=8-j/\e=⟨[(3,.ptr 0 0),(4,.ptr 1 0),(5,.ptr 2 0),(6,.ptr 3 0),(7,.d (Bb (Ba L))),(8,.d (eN E.length)),(9,.ptr 4 0),(10,.d (eN g)),(12,.d (eN k)),(13,.ptr 7 0),(14,.d (eN j))],[.var 58 ((Hr T t M L V).map .d),.var 26 (([eI W,Bb E,F]:List D).map .d),.var 34 (([eI 13,G,eI n,eI d,eI r,Y,Bb p,S,C]:List D).map .d),.var 46 ((EN 0 Aq Aq Aq Aq Aq Aq Aq Aq Aq Aq).map .d),.var 46 ((EN 0 Aq Aq Aq Aq Aq Aq Aq Aq (ex v) (ex u)).map .d),.obj (LX v 187 32 (pxR V k)),.obj (LX u 131 64 (bxR V k)),.var 187 ((GY λi=>Hv (if i<j then zQ else default)).map .d)]⟩) ?le2 ⟨0,by omega,rfl,rfl⟩ ?round2
   case le2=>exact Ac Zey (by exact Yv<|Yv<|Yv<|Yv<|Yv<|HpLe.cons (OwLe.obj rfl)<|HpLe.cons (OwLe.obj rfl)<|HpLe.cons (HG Rz)<|HpLe.nil)
   case round2=>
    rintro w _ ⟨j,X,rfl,rfl⟩;by_cases l:j<8
    .refine Go ?_;refine MM (ao rfl) (ao rfl) rfl (Aa rfl) rfl (HC (λ_=>rfl) rfl l) rfl ?_;refine Go ?_
     refine Ai (8-(j+1)) ZbC ⟨j+1,by omega,rfl,rfl⟩ ?_;exact Ac Zey (by apply Yv;apply Yv;apply Yv;apply Yv;apply Yv;refine HpLe.cons (OwLe.obj rfl) ?_;refine HpLe.cons (OwLe.obj rfl) ?_;refine HpLe.cons (OwLe.varD (A0H (c:=Hv) (x:=λ_=>zQ) (d:=λ_=>default))) ?_;exact HpLe.nil)
    .obtain rfl:j=8:=by omega
     refine Ah<|Y1<|Wm ?_;refine Wq AL ?_;refine Y0<|Cf<|Cc<|Bz<|BM<|BE<|Yn<|Y1 ?_;refine Wq AB ?_;refine Wq As ?_;refine Wm ?_;refine Wq (AJ (J)) ?_;refine Wq (AJ (x)) ?_;refine Wq Xd ?_;refine MM (ao rfl) (ao rfl) rfl (Aa rfl) rfl (HC (i:=0) (v:=DE ((AR V k:Int):Rat)) (λ_=>rfl) rfl ZbH) rfl ?_;apply Y0
     refine A23 4 13 15 [14,13,12,11,10,9,8,7,6,5,4,3,2,1,0] [12,11,10,9,8,7,6,5,4,3,2,1,0] [.ptr 4 26,.d (ex v),.d (AP (pxE V k)),.d (slD 187 32 [pxE V k]),.own 5,.ptr 4 27,.d (ex u),.ptr 0 2,.d (OR t V),.d (eN k),.d (eN (k+1)),.d (AP (DB (Eg V (k+1)))),.d (slD 131 64 [DB (Eg V (k+1))]),.own 6,.ptr 4 26] [(3,.ptr 0 0),(4,.ptr 1 0),(5,.ptr 2 0),(6,.ptr 3 0),(7,.d (Bb (Ba L))),(8,.d (eN E.length)),(9,.ptr 4 0),(10,.d (eN g)),(12,.d (eN k)),(13,.ptr 7 0)] [(125,.own 5),(134,.own 6),(135,.ptr 4 26),(3,.ptr 0 0),(4,.ptr 1 0),(5,.ptr 2 0),(6,.ptr 3 0),(7,.d (Bb (Ba L))),(8,.d (eN E.length)),(9,.ptr 4 0),(10,.d (eN g)),(12,.d (eN k))] [.var 58 ((Hr T t M L V).map .d),.var 26 (([eI W,Bb E,F]:List D).map .d),.var 34 (([eI 13,G,eI n,eI d,eI r,Y,Bb p,S,C]:List D).map .d),.var 46 ((EN 0 Aq Aq Aq Aq Aq Aq Aq Aq Aq Aq).map .d),.var 46 ((EN 0 Aq Aq Aq Aq Aq Aq Aq Aq (ex v) (ex u)).map .d),.row 187 32 (pxR V k++[pxE V k]),.obj (LX u 131 64 (bxR V k)),.var 187 ((pxE V k).map .d)] [.var 58 ((Hr T t M L V).map .d),.var 26 (([eI W,Bb E,F]:List D).map .d),.var 34 (([eI 13,G,eI n,eI d,eI r,Y,Bb p,S,C]:List D).map .d),.var 46 ((EN 0 Aq Aq Aq Aq Aq Aq Aq Aq Aq Aq).map .d),.var 46 ((EN 0 Aq Aq Aq Aq Aq Aq Aq Aq (ex v) (ex u)).map .d),.row 187 32 (pxR V k++[pxE V k]),.row 131 64 (bxR V k++[DB (Eg V (k+1))]),.var 187 ((pxE V k).map .d)] ZbG ⟨rfl,rfl,rfl,rfl,rfl,rfl,rfl,rfl,rfl,rfl,trivial⟩ rfl rfl rfl rfl ZbG ZbG ZbG ZbG (by refine DSteps2.q rfl rfl ZbJ ZbJ ZbJ ?_;refine DSteps2.q rfl rfl ZbJ ZbJ ZbJ ?_;refine DSteps2.q rfl rfl ZbJ ZbJ ZbJ ?_;refine DSteps2.q rfl rfl (Cb (ah rfl) (Aa rfl) (Aa rfl) rfl rfl rfl rfl rfl) (Cb (ah rfl) (Aa rfl) (Aa rfl) rfl rfl rfl rfl rfl) (Cb (ah rfl) (Aa rfl) (Aa rfl) rfl rfl rfl rfl rfl) ?_;refine DSteps2.k rfl (Vt (DTurn.rows (id:=5) rfl rfl rfl (Aa rfl) (Aa rfl) rfl rfl rfl rfl ZiI ZiI) rfl rfl) ?_;refine DSteps2.q rfl rfl ZbJ ZbJ ZbJ ?_;refine DSteps2.q rfl rfl ZbJ ZbJ ZbJ ?_;refine DSteps2.q rfl rfl ZbJ ZbJ ZbJ ?_;refine DSteps2.q rfl rfl ZbJ ZbJ ZbJ ?_;refine DSteps2.q rfl rfl ZbJ ZbJ ZbJ ?_;refine DSteps2.q rfl rfl (HU (ah rfl) (ah rfl) ZbC) (HU (ah rfl) (ah rfl) ZbC) (HU (ah rfl) (ah rfl) ZbC) ?_;refine DSteps2.q rfl rfl (BO (ah rfl) b (ArgsLe.cons rfl (D.le.refl _) (ArgsLe.cons rfl (D.le.refl _) ArgsLe.nil))) (BO (ah rfl) b (ArgsLe.cons rfl (D.le.refl _) (ArgsLe.cons rfl (D.le.refl _) ArgsLe.nil))) (BO (ah rfl) b (ArgsLe.cons rfl (D.le.refl _) (ArgsLe.cons rfl (D.le.refl _) ArgsLe.nil))) ?_;refine DSteps2.q rfl rfl (Cb (ah rfl) (Aa rfl) (Aa rfl) rfl rfl rfl rfl rfl) (Cb (ah rfl) (Aa rfl) (Aa rfl) rfl rfl rfl rfl rfl) (Cb (ah rfl) (Aa rfl) (Aa rfl) rfl rfl rfl rfl rfl) ?_;refine DSteps2.l rfl rfl (Vt (DTurn.rows (id:=6) rfl rfl rfl (Aa rfl) (Aa rfl) rfl rfl rfl rfl ZiI ZiI) rfl rfl) ?_;refine DSteps2.q rfl rfl ZbJ ZbJ ZbJ ?_;exact DSteps2.nil) ZbG ⟨rfl,rfl,rfl,rfl,rfl,rfl,rfl,rfl,rfl,rfl,rfl,rfl,trivial⟩ ?_;refine Eo (ao rfl) (ao rfl) rfl (Aa rfl) (One.own rfl) rfl rfl ?_;refine Wq AB ?_;refine Eo (ao rfl) (ao rfl) rfl (Aa rfl) (One.own rfl) rfl rfl ?_;refine AWl.nil<|Bg<|Yn ?_;(refine Gf 5 187 32 (pxR V (k+1)) (by rw[A5D];rfl) λA=>?_);(refine Gf 6 131 64 (bxR V (k+1)) (by rw[A6D];rfl) λa=>?_);refine AWp.region<|Wm ?_;refine Wq CL ?_;refine Wa<|AWl.nil ?_
     skip
     refine Ai (g-(k+1)) ZbC ⟨k+1,A,a,by omega,rfl,rfl⟩ ?_;exact Ac Zct (by exact HpLe.cons (Ad rfl)<|HpLe.cons (Ad rfl)<|HpLe.cons (Ad rfl)<|HpLe.cons (Ad rfl)<|HpLe.cons (Ad rfl)<|HpLe.cons (OwLe.obj rfl)<|HpLe.cons (OwLe.obj rfl)<|HpLe.nil)
  .obtain rfl:k=g:=by omega
   refine CT (σ':=⟨[(3,.ptr 0 0),(4,.ptr 1 0),(5,.ptr 2 0),(6,.ptr 3 0),(7,.d (Bb (Ba L))),(8,.d (eN E.length)),(9,.ptr 4 0),(10,.d (eN k)),(12,.d (eN k))],[.var 58 ((Hr T t M L V).map .d),.var 26 (([eI W,Bb E,F]:List D).map .d),.var 34 (([eI 13,G,eI n,eI d,eI r,Y,Bb p,S,C]:List D).map .d),.var 46 ((EN 0 Aq Aq Aq Aq Aq Aq Aq Aq Aq Aq).map .d),.var 46 ((EN 0 Aq Aq Aq Aq Aq Aq Aq Aq (slD 187 32 (pxR V k)) (slD 131 64 (bxR V k))).map .d),.dead,.dead]⟩) ?wk ?_
   case wk=>exact Ac Zcx (HpLe.cons (OwLe.varD rfl) (HpLe.cons (OwLe.varD rfl) (HpLe.cons (OwLe.varD rfl) (HpLe.cons (OwLe.varD rfl) (HpLe.cons (OwLe.cells (by repeat (first | exact CellsLe.nil | refine CellsLe.cons (AVle.rows (id:=5) rfl) ?_ | refine CellsLe.cons (AVle.rows (id:=6) rfl) ?_ | refine CellsLe.cons (AVle.d rfl) ?_))) (HpLe.cons OwLe.dead (HpLe.cons OwLe.dead HpLe.nil)))))))
   exact ZfF
def sqL(Q:List (List Tm))(V:List Int)(k:Nat):List (RQ×List RTm):=(List.range k).map λi=>(Mq (Rat.divInt (AR V i) 5),(pP Q i).map EF)
theorem A5i(Q:List (List Tm))(V:List Int)(k:Nat):slD 184 5 (VE Q V k)=VD (sqL Q V k):=by
 unfold VD VE sqL;rw[Ycj];congr 1
 exact YaS λi _=>by
  show DE _++[BS _]=JF (_,_);unfold JF;rw[KA];rfl
def atL(V:List Int)(k:Nat):List (RQ×RQ):=(List.range k).map λi=>Eg V i 0
theorem A6K(V:List Int)(k:Nat):slD 129 8 (WT V k)=WD (atL V k):=by
 unfold WD WT atL;rw[Ycj];rfl
def ptF(V:List Int)(k i:Nat):RQ:=if i=0 then Mq ((AR V k:Int):Rat)else if i<8 then zQ else default
def ptL(V:List Int)(k:Nat):List (Nat->RQ):=(List.range k).map (ptF V)
theorem Aaa(V:List Int)(k:Nat):slD 187 32 (pxR V k)=A0B (ptL V k):=by
 unfold A0B pxR ptL;rw[Ycj];congr 1
def bxL(V:List Int)(k:Nat):List (Nat->RQ×RQ):=(List.range k).map λi=>Eg V (i+1)
theorem AaY(V:List Int)(k:Nat):slD 131 64 (bxR V k)=Gl (bxL V k):=by
 unfold Gl bxR bxL;rw[Ycj];rfl
abbrev rs0:Rsl:=⟨λ_=>0,[],λ_=>[]⟩
def rsM(V:List Int):Rsl:=⟨λi=>if i=0 then 1 else if i=1 then AR V 5 else 0,(La V 3).map Mq,λi=>if i=1 then(La V 2).map Mq else[]⟩
def tQ(L:List (List (List Tm))):List (List (List RTm)):=L.map rQ
def DO(P:Int)(Q:List (List Tm))(V:List Int)(m c:Nat):Crt:=
 if P=1 then⟨0,rQ (pQ Q 1 m),[],[],[],[],[],rs0,[],[],[],[]⟩
 else if P=3 then⟨((gN V+1:Nat):Int),rQ (pQ Q 1 m),[],[],[],[],[],rs0,[],[],[],[]⟩
 else if P=9\/P=10 then⟨0,rQ (pQ Q 1 m),[],[],[],[],[],rs0,[],sqL Q V (gN V),[],[]⟩
 else if P=11 then⟨0,[],[],[],tQ (GJ Q m (1+c*(c+1)/2)),[],[],rs0,[],[],[],[]⟩
 else if P=12 then⟨0,[],rQ (pQ Q 0 (gN V)),CW (gN V),tQ (GJ Q m (gN V)),[],[],rs0,[],[],[],[]⟩
 else if P=13 then⟨0,[],[],[],[],[],[],rs0,[],[],ptL V (gN V),bxL V (gN V)⟩
 else if P=7\/P=8 then⟨0,[],rQ (pQ Q 0 (gN V)),CW (gN V),tQ (GJ Q m (gN V)),tQ (GJ Q (gN V) m),tQ (GJ Q (gN V) (gN V*(gN V-1)/2)),rsM V,atL V (gN V),[],[],[]⟩
 else⟨0,[],rQ (pQ Q 0 (gN V)),CW (gN V),tQ (GJ Q m (gN V)),tQ (GJ Q (gN V) m),tQ (GJ Q (gN V) (gN V*(gN V-1)/2)),rs0,[],[],[],[]⟩
theorem WM(e:Crt):DI e=[eI e.n,Iq e.cof,Iq e.g,Er e.o,TI e.c,TI e.q,TI e.s,eI (e.r.l 0),eI (e.r.l 1),eI (e.r.l 2),eI (e.r.l 3),eI (e.r.l 4),eI (e.r.l 5),eI (e.r.l 6),eI (e.r.l 7),Hn e.r.q,Hn (e.r.r 0),Hn (e.r.r 1),Hn (e.r.r 2),Hn (e.r.r 3),Hn (e.r.r 4),Hn (e.r.r 5),Hn (e.r.r 6),Hn (e.r.r 7),WD e.a,VD e.sq,A0B e.x,Gl e.b]:=rfl
theorem Xz(T t:Nat)(M:Nat)(L:List (Nat×List (Nat->Int)))(s:TM L)(V:List Int)(f:I8 V)(I:V.length<=9223372036854775807)(W:Int)(E:List (List Tm))(Z:E.length<=12)(F X Y S A:D)(n d r:Int)(p:List (List Tm))(Q:p.length<=12)(P:Int):Abs prog 49 [AP (Hr T t M L V),AP [eI W,Bb E,F],AP [eI P,X,eI n,eI d,eI r,Y,Bb p,S,A]] (AP (DI (DO P (Ba L) V E.length p.length))):=by
 rw[WM];unfold DO;by_cases k:P=1
 .rw [Yao k,k]
  refine(A4E T t M L s V f I W E Z F X Y S A n d r p Q).le (Ch ?_)
  repeat (first | exact DsLe.nil | refine DsLe.cons (Ae (Fe _)) ?_ | refine DsLe.cons AM ?_ | refine DsLe.cons (D.le.refl _) ?_)
 rw[Yaj k];by_cases y:P=3
 .rw [Yao y,y]
  refine(A4D T t M L s V f I W E Z F X Y S A n d r p Q).le (Ch ?_)
  repeat (first | exact DsLe.nil | refine DsLe.cons (Ae (Fe _)) ?_ | refine DsLe.cons AM ?_ | refine DsLe.cons (D.le.refl _) ?_)
 rw[Yaj y];by_cases B:P=9\/P=10
 .rw [Yao B]
  rcases B with B | B
  .refine (A4A T t M L s V f I W E Z F X Y S A n d r p Q P B).le (Ch ?_)
   repeat (first | exact DsLe.nil | refine DsLe.cons (Ae (Fe _)) ?_ | refine DsLe.cons (Ae (A5i _ _ _)) ?_ | refine DsLe.cons AM ?_ | refine DsLe.cons (D.le.refl _) ?_)
  .refine (A1X T t M L s V f I W E Z F X Y S A n d r p Q P B).le (Ch ?_)
   repeat (first | exact DsLe.nil | refine DsLe.cons (Ae (Fe _)) ?_ | refine DsLe.cons (Ae (A5i _ _ _)) ?_ | refine DsLe.cons AM ?_ | refine DsLe.cons (D.le.refl _) ?_)
 rw[Yaj B];by_cases C:P=11
 .rw [Yao C,C]
  refine(A1W T t M L s V f I W E Z F X Y S A n d r p Q).le (Ch ?_)
  repeat (first | exact DsLe.nil | refine DsLe.cons (Ae (NH _)) ?_ | refine DsLe.cons AM ?_ | refine DsLe.cons (D.le.refl _) ?_)
 rw[Yaj C];by_cases J:P=12
 .rw [Yao J,J]
  refine(A1V T t M L s V f I W E Z F X Y S A n d r p Q).le (Ch ?_)
  repeat (first | exact DsLe.nil | refine DsLe.cons (Ae (Fe _)) ?_ | refine DsLe.cons (Ae (NH _)) ?_ | refine DsLe.cons AM ?_ | refine DsLe.cons (D.le.refl _) ?_)
 rw[Yaj J];by_cases K:P=13
 .rw [Yao K,K]
  refine(A1U T t M L s V f I W E Z F X Y S A n d r p Q).le (Ch ?_)
  repeat (first | exact DsLe.nil | refine DsLe.cons (Ae (Aaa _ _)) ?_ | refine DsLe.cons (Ae (AaY _ _)) ?_ | refine DsLe.cons AM ?_ | refine DsLe.cons (D.le.refl _) ?_)
 rw[Yaj K];by_cases G:P=7\/P=8
 .rw [Yao G]
  rcases G with G | G
  .refine (A4C T t M L s V f I W E Z F X Y S A n d r p Q P G).le (Ch ?_)
   repeat (first | exact DsLe.nil | refine DsLe.cons (Ae (Fe _)) ?_ | refine DsLe.cons (Ae (NH _)) ?_ | refine DsLe.cons (Ae (A5z _)) ?_ | refine DsLe.cons (Ae (A6K _ _)) ?_ | refine DsLe.cons AM ?_ | refine DsLe.cons (D.le.refl _) ?_)
  .refine (A4B T t M L s V f I W E Z F X Y S A n d r p Q P G).le (Ch ?_)
   repeat (first | exact DsLe.nil | refine DsLe.cons (Ae (Fe _)) ?_ | refine DsLe.cons (Ae (NH _)) ?_ | refine DsLe.cons (Ae (A5z _)) ?_ | refine DsLe.cons (Ae (A6K _ _)) ?_ | refine DsLe.cons AM ?_ | refine DsLe.cons (D.le.refl _) ?_)
 rw[Yaj G];have g:P≠7/\P≠8:=⟨λh=>G (.inl h),λh=>G (.inr h)⟩;have q:P≠9/\P≠10:=⟨λh=>B (.inl h),λh=>B (.inr h)⟩;refine(A4z T t M L s V f I W E Z F X Y S A n d r p Q P k y g.1 g.2 q.1 q.2 C J K).le (Ch ?_)
 repeat (first | exact DsLe.nil | refine DsLe.cons (Ae (Fe _)) ?_ | refine DsLe.cons (Ae (NH _)) ?_ | refine DsLe.cons AM ?_ | refine DsLe.cons (D.le.refl _) ?_)
noncomputable def YG (M:Nat) (L:List (Nat×List (Nat->Int))) (V:List Int):Fct:=
 ⟨Hc L V,Cz M L V,DO (Cz M L V).kind (Ba L) V (Hc L V).e.length (Cz M L V).l.length⟩
theorem A2B(M:Nat)(L:List (Nat×List (Nat->Int)))(V:List Int):(Cz M L V).l.length<=3:=by
 have q:(AR V 1%8%4).toNat<=3:=by omega
 unfold Cz
 repeat' split
 all_goals first | exact Yay _ | (simp only[rQ,pQ,Yap,YeE];exact q)
theorem Yb(L:List (Nat×List (Nat->Int))):(Ba L).length<=6:=by
 exact ZhY
theorem A7g(T t:Nat)(M:Nat)(W:M<256)(L:List (Nat×List (Nat->Int)))(N:TM L)(V:List Int)(f:I8 V)(I:V.length<=9223372036854775807):Abs prog 15 [AP (Hr T t M L V)] (AP (DG (YG M L V))):=by
 have O:=Xy T t M L N V f I;have S:=Uk T t M W L N V f I;have J:=A2B M L V;obtain⟨kind,P,n,d,r,o,Q,s,b,G,g⟩:=A0O M L V f;rw[G]at S J;rw[GC]at S
 have k:Q.length<=12:=by
  have K:Q.length<=3:=by simpa[rQ]using J
  omega
 obtain⟨E,Z⟩:∃E,E=JE false ((Ba L).take (nK L V)):=⟨_,rfl⟩;obtain⟨F,hF⟩:∃F,F=JE true (((Ba L).take (min (Ba L).length (nK L V+1))).drop (nK L V)):=⟨_,rfl⟩;have B:Ef (Hc L V)=[eI 2,Bb E,Bb F]:=by rw[Z,hF,Fe,Fe];rfl
 have X:E.length<=12:=by
  have q:=Ln false ((Ba L).take (nK L V)) _ (Yai _);have A:=Yb L;have K:((Ba L).take (nK L V)).length<=6:=ZgV
  rw[Z];exact Yau q (Yau K ZbH)
 rw[B]at O;have c:=Xz T t M L N V f I 2 E X (Bb F) (BS P) (Er o) (NR s) (Gl b) n d r Q k kind
 have C:DO (Cz M L V).kind (Ba L) V (Hc L V).e.length (Cz M L V).l.length=DO kind (Ba L) V E.length Q.length:=by
  rw[G,show(Hc L V).e.length=E.length by rw[Z];simp[Hc,rQ]];simp[rQ]
 have Y:DG (YG M L V)=[eI 2,Bb E,Bb F]++([eI kind,BS P,eI n,eI d,eI r,Er o,Bb Q,NR s,Gl b]++DI (DO kind (Ba L) V E.length Q.length)):=by
  unfold YG DG
  dsimp only
  rw[C,B,G,GC]
 rw[Y];generalize DO kind (Ba L) V E.length Q.length=e at c ⊢;clear Y C G B Z hF;refine Ab func15 λy=>?_;rw[ntmps15];apply Y1;refine Bx ?_;refine Al ?_;refine Y0<|Ah ?_
 refine Dy 6 ?_;refine Xq AF ?_;refine Xq (AJ (O)) ?_;refine Xq AF ?_;refine Xq (AJ (S)) ?_;refine Xn ?_;refine Xn ?_;refine⟨_,rfl,?_⟩;refine Sf ?_;refine Sf ?_;refine Y0<|Ah ?_
 refine Dy 7 ?_;refine Xq AF ?_;refine Xq AF ?_;refine Xq AF ?_;refine Xq AF ?_;refine Xq AF ?_;refine Xq (AJ (c)) ?_;(refine Hq rfl ?_;refine AI (Aa rfl) rfl rfl rfl ?_;(repeat ((first | refine⟨_,Ar (ah rfl),?_⟩ | refine⟨_,Po rfl,?_⟩);refine⟨_,rfl,?_⟩));refine⟨_,rfl,?_⟩;refine⟨_,rfl,?_⟩);refine⟨_,rfl,?_⟩;refine Sf ?_;refine Y0<|BR ?_
 exact Zkg
structure MP(N:Nat)(P:List Tm):Prop where
 b:PB P 3 N 2
 z:∀t∈P,∀i,2<=i->t.m i=0
theorem MP.nil{N:Nat}:MP N []:=⟨PB.nil,λt h=>ZdB⟩
theorem A5q(h:vL∈XX vD vc):∃s∈vc,s.m=vL.m:=by
 unfold XX at h;split at h
 .cases h
 .obtain ⟨s,a,rfl⟩:=YaD.1 h
  exact⟨s,a,(Hu _).symm⟩
theorem A60(X:List (Nat->Int)):∀(A:List Tm),(∀t∈A,∀i,2<=i->t.m i=0)->∀t∈X.foldl (λa r=>Jq a (A0z 2 2 r)) A,∀i,2<=i->t.m i=0:=by
 induction X with
 |nil=>intro A h;exact h
 |cons r X B=>
  intro A h;refine B _ λt L i J=>?_;rcases Iu _ _ t L with⟨s,q,e⟩ | ⟨s,q,e⟩
  .rw [<-e];exact h s q i J
  .rw [<-e]
   obtain⟨u,Q,o⟩:=A5q q;rw[<-o];simp only[Yax]at Q;rw[Q];show SN 2 r 2 i=0;unfold SN;rw[Yaj ZbC]
theorem A95{L:List (Nat×List (Nat->Int))}(h:vc∈Ba L):MP 9 vc:=by
 have E:=VT L vc h;obtain⟨x,_,rfl⟩:=YaD.1 h;exact⟨E,A60 _ [] λt h=>ZdB⟩
theorem MP.nrm(h:MP 9 vc):MP 37 (Ea vc):=by
 have o:=NT vc
 have v:∀t∈Ea vc,∃s∈vc,s.m=t.m:=λt L=>by
  obtain⟨k,B,rfl⟩:=List.mem_iff_getElem.1 L;have F:k<vc.length:=by rwa [o]at B
  have q:=A5T vc F;have A:BA (Ea vc) k=(Ea vc)[k]:=by simp[BA,Yaa,B]
  rw[A]at q;rw[q];exact⟨BA vc k,by simp[BA,Yaa,F],rfl⟩
 refine⟨?_,λt L i J=>?_⟩
 .unfold Ea
  split
  .exact PB.nil
  .rename_i c
   have I:=h.b.len;have S:vc.length*9<=3*9:=YaX I (Yai _);have:=A57 (t:=⟨Ij vc,λ_=>0⟩) (d0:=0) h.b (Wp vc h.b.can ZbC) ((NU vc h.b.sz h.b.can ZbC).mono (show 1+vc.length*9<=28 by omega)) λi _=>⟨YbP _,YbP _⟩;rwa [Int.zero_add]at this
 .obtain ⟨s,a,e⟩:=v t L
  rw[<-e];exact h.z s a i J
theorem MP.use(h:MP n vc):OY vc<4:=by
 refine Nat.lt_of_not_le λG=>?_;obtain⟨i,J,E⟩:=Nat.exists_ge_and_testBit_of_ge_two_pow (n:=2) (by simpa using G);by_cases x:i<8
 .obtain ⟨t,L,F⟩:=(A4X vc i x).1 E
  rw[h.z t L i J]at F;omega
 .have q:=Vx vc
  have A:=Nat.testBit_lt_two_pow (x:=OY vc) (i:=i) (Yaq q (Ybo (n:=2) ZbH (show 8<=i by omega)));rw[A]at E;cases E
theorem A6u(d:-1<=a)(h:∀t∈vc,Da t.m 8<=a):Im vc<=a:=by
 unfold Im
 have:∀(vc:List Tm) (A:Int),A<=a->(∀t∈vc,Da t.m 8<=a)->vc.foldl (λa t=>max a (Da t.m 8)) A<=a:=by
  intro vc
  induction vc with
  |nil=>intro A B _;exact B
  |cons t vc C=>
   intro A B h;have q:=h t (Ybk ..);exact C _ (by show max A (Da t.m 8)<=a;omega) λu Q=>h u (Ybc _ Q)
 exact this vc _ d h
theorem MP.deg (h : MP n vc) : Im vc ≤ 4 := A6u ZbH fun t L => by
 have c:=h.b.ex t L 0 ZbH;have q:=h.b.ex t L 1 ZbH;have A:=h.z t L;have e:Da t.m 8=0+t.m 0+t.m 1+t.m 2+t.m 3+t.m 4+t.m 5+t.m 6+t.m 7:=rfl;rw[e,A 2 ZbH,A 3 ZbH,A 4 ZbH,A 5 ZbH,A 6 ZbH,A 7 ZbH];omega
theorem MP.bd{N:Nat}{P:List Tm}(h:MP N P)(d:4<=a):Vu 2 a (P.map EF):=by
 refine⟨XJ h.b.can (h.b.ex.mono (YbP _) ZbH),?_,?_⟩
 .rw [Lj];exact h.use
 .rw [Lj];exact Yet h.deg d
theorem MP.pz(h:MP n vc)(V:n<=10000):PZ (vc.map EF):=⟨λr Y=>by
 obtain⟨t,L,rfl⟩:=YaD.1 Y;have a:=h.b.sz t L;exact⟨⟨BG _,Yau a.1 V⟩,⟨BG _,Yau a.2 V⟩⟩,by rw[Yap];have:=h.b.len;omega⟩
theorem MP.po(h:MP n vc)(V:n<=10000):PoB (vc.map EF):=⟨λr Y=>by
 obtain⟨t,L,rfl⟩:=YaD.1 Y;have a:=h.b.sz t L;refine⟨⟨BG _,?_⟩,⟨BG _,?_⟩,λi J=>?_,λi J=>?_⟩
 .exact Ycc a.1 ZbC
 .exact Ycc a.2 ZbC
 .have:=h.b.ex t L i J
  show 0<=t.m i/\t.m i<=65535;omega
 .exact h.z t L i ZbC,by rw[Yap];have:=h.b.len;omega⟩
theorem Wx(h:n<128):(By n).length=1:=by
 rw[By,Yao h];rfl
theorem Rm{U:Type}{e:U->List Nat}{B:Nat}:∀{l:List U},(∀x∈l,(e x).length<=B)->(l.flatMap e).length<=l.length*B
 |[],_=>by simp
 |x::l,h=>by
  rw[Ydj,Yac,Yat,YcP];have q:=h x (Ybk ..);have A:=Rm (l:=l) λy M=>h y (Ybc _ M);omega
theorem Rk{b:Bool}{l:List Nat}{N:Nat}(h:l.length<=N)(V:N<=60):(FD b l).length<=1+4*N:=by
 unfold FD;rw[Yac,Wx (by split<;>omega)];have:=Rm (e:=Cy) (B:=4) (l:=l) λx _=>by simp[Cy]
 omega
theorem A7Z{q:RQ}(A:q.l.length<=n)(B:q.l'.length<=n)(V:n<=60):(CD q).length<=2+8*n:=by
 unfold CD;rw[Yac];have:=Rk (b:=q.b) A V;have:=Rk (b:=q.b') B V;omega
theorem Mr{U:Type}{e:U->List Nat}{f:Nat->U}{B:Nat}(h:∀i,i<8->(e (f i)).length<=B):(Kb e f).length<=8*B:=by
 unfold Kb;have:=Rm (e:=λi=>e (f i)) (B:=B) (l:=List.range 8) λi J=>h i (Ybd.1 J);rwa [YeE]at this
theorem FL{U:Type}{e:U->List Nat}{B:Nat}{l:List U}(I:l.length<128)(h:∀x∈l,(e x).length<=B):(Bp e l).length<=1+l.length*B:=by
 unfold Bp;rw[Yac,Wx I];have:=Rm h;omega
theorem MP.len{N:Nat}{P:List Tm}(h:MP N P)(V:N<=60):(CH (P.map EF)).length<=31+24*N:=by
 have I:=h.b.len
 have q := FL (e := Eu) (B := 10 + 8 * N) (l := P.map EF) (by rw [Yap]; omega) fun r Y => by
  obtain⟨t,L,rfl⟩:=YaD.1 Y;have a:=h.b.sz t L;unfold Eu;rw[Yac,Yac];have B:=Rk (b:=(EF t).b) (l:=(EF t).l) (N:=N) a.1 V;have E:=Rk (b:=(EF t).b') (l:=(EF t).l') (N:=N) a.2 V
  have c:=Mr (e:=λz=>By (u64 z)) (f:=(EF t).m) (B:=1) λi J=>by
   have C:=h.b.ex t L i J;show(By (u64 (t.m i))).length<=1;rw[Wx (by unfold u64;omega)];exact Yai _
  omega
 have A:(P.map EF).length*(10+8*N)<=3*(10+8*N):=YaX (by rw[Yap];exact I) (Yai _);show(Bp Eu (P.map EF)).length<=_;omega
def ovC(R:List (Nat->Int)):Bool:=Nat.ble R.length 24&&(List.range R.length).all λk=>(List.range 8).all λj=>decide (-1000<=Gj R k j)&&decide (Gj R k j<=1000)&&(!decide (Gj R k j<0)||seenTo R k j)
theorem Aad{R:List (Nat->Int)}(h:ovC R=true):OValid R:=by
 unfold ovC at h;simp only[Yam,YdL]at h;refine⟨h.1,λk j B X=>?_⟩;have q:=Yah.1 (Yah.1 h.2 k (Ybd.2 B)) j (Ybd.2 X);simp only[Yam,YaZ,YaT,Bool.not_eq_true',YdD]at q;exact⟨q.1.1,q.1.2,λg=>q.2.resolve_left λh=>h g⟩
theorem A9X:∀z,z<256->ovC (CW z)=true:=ZjV
theorem VG{z:Nat}(h:z<256):OValid (CW z):=Aad (A9X z h)
theorem A0E{m i:Nat}(v:m<256)(J:8<=i):BV m i=0:=by
 unfold BV;have A:2^8<=2^i:=Ybo ZbH J
 have q:m >>> i=0:=by
  rw[Yey];exact YbK ZbC
 show((m >>> i%2:Nat):Int)=0;simp[q]
theorem A8h{k i:Nat}(h:i≠k):Eb k i=0:=by simp[Eb,h]
theorem UD:∀(n:Nat),n<=7->∀r∈Gs n,∀i,8<=i->r i=0
 |0,_,r,Y,_,_=>by simp[Gs]at Y
 |n+1,g,r,Y,i,J=>by
  unfold Gs at Y;rcases YaL.1 Y with rfl | Y
  .exact A8h ZbC
  .exact UD n ZbC r Y i J
theorem UE:∀r∈revRows,∀i,8<=i->r i=0:=λr Y i J=>by
 unfold revRows at Y;rcases YaL.1 Y with rfl | Y
 .exact A0E ZbH J
 .exact UD 7 (Yai _) r Y i J
theorem A5w(h:vr.length<=8)(J:8<=n):A5x vr n=0:=by
 unfold A5x;rw[Yaa,YbI ZbC];rfl
theorem A9W:∀r∈CW n,∀i,8<=i->r i=0:=λr Y i J=>by
 unfold CW at Y;split at Y
 .cases Y
 split at Y
 .rw [Yax.1 Y];exact A0E ZbH J
 split at Y
 .exact UE r Y i J
 split at Y
 .rw [Yax.1 Y];exact A5w ZbH J
 split at Y
 .simp only[YaL,YdW,or_false]at Y
  rcases Y with rfl | rfl<;>exact A5w ZbH J
 .rcases YaL.1 Y with rfl | Y
  .exact A0E ZbC J
  .exact UE r Y i J
theorem VH(h:n<256):∀r∈CW n,In8 r (-1000) 1000:=(VG h).in8
theorem A2g(h:n<256):LZ (FG IW) (CW n):=⟨λr Y i J=>by
 have:=VH h r Y i J;unfold IW;omega,by have:=Mk n;omega⟩
theorem A2f(h:n<256):OrB (CW n):=⟨λr Y=>⟨λi J=>by
 have:=VH h r Y i J;unfold IB;omega,λi J=>A9W r Y i J⟩,by have:=Mk n;omega⟩
theorem Aaj(h:n<16384):(By n).length<=2:=by
 rw[By];split
 .simp
 .rw [Yat, Wx ZbC]
  exact Yai _
theorem KF{z:Int}(q:-8000<=z)(A:z<=8000):(Bs z).length<=2:=by
 unfold Bs So;refine Aaj ?_;split<;>omega
theorem XS{z:Nat}(h:z<256):(CC (CW z)).length<=161:=by
 have I:=Mk z
 have q := FL (e := Gz) (B := 16) (l := CW z) ZbC fun r Y => Mr (B := 2) fun i J => by
  have:=VH h r Y i J;exact KF ZbC ZbC
 have A:(CW z).length*16<=10*16:=YaX I (Yai _);show(Bp Gz (CW z)).length<=_;omega
theorem ZK(h:RSz vD n)(V:n<=10000):QZ (Mq vD):=⟨⟨BG _,Yau h.1 V⟩,⟨BG _,Yau h.2 V⟩⟩
theorem ZL(h:RSz vD n)(V:n<=10000):QB (Mq vD):=⟨⟨BG _,Ycc h.1 ZbC⟩,⟨BG _,Ycc h.2 ZbC⟩⟩
theorem NO(h:RSz vD n)(V:n<=60):(CD (Mq vD)).length<=2+8*n:=A7Z h.1 h.2 V
theorem XY{z:Int}(q:-1000<=z)(A:z<=1000):RSz ((z:Int):Rat) 1:=JG ZbC ZbC
def Ta(V:List Int)(k i:Nat):RQ×RQ:=if i<8 then Eg V k i else default
theorem A6c(f:I8 vr)(k i:Nat):RSz (loB vr k i) 2/\RSz (loB vr k i+wiB vr k) 5/\loB vr k i<=loB vr k i+wiB vr k:=by
 have q:=Cj f (k+i);have A:=Cj f k;have a:RSz (loB vr k i) 2:=Og ZbC ZbC ZbC ZbC;have b:RSz (wiB vr k) 2:=Og ZbC ZbC ZbC ZbC
 have c:0<=wiB vr k:=by
  unfold wiB;rw[Rat.divInt_nonneg_iff_of_pos_right ZbH];omega
 refine⟨a,a.add b,?_⟩;have:=(Rat.add_le_add_left (c:=loB vr k i)).2 c;rwa [Rat.add_zero]at this
theorem A8O(f:I8 vr)(k i:Nat):(∃p,(Eg vr k i).1=Mq p/\RSz p 5)/\∃p,(Eg vr k i).2=Mq p/\RSz p 5:=by
 have h:=A6c f k i;unfold Eg;split
 .exact ⟨⟨_,rfl,h.1.mono ZbH⟩,⟨_,rfl,h.2.1⟩⟩
 .exact ⟨⟨_,rfl,(XY (z:=0) ZbH ZbH).mono ZbH⟩,⟨_,rfl,(XY (z:=0) ZbH ZbH).mono ZbH⟩⟩
theorem A2T(f:I8 vr)(k i:Nat):IvP (Eg vr k i):=by
 have h:=A6c f k i;unfold Eg;split
 .refine ⟨OJ _,OJ _,?_⟩
  show IR (OQ (Mq _)) (OQ (Mq _))<=0;rw[OZ,OZ,A2r];exact h.2.2
 .refine ⟨OJ _,OJ _,?_⟩
  show IR (OQ (Mq _)) (OQ (Mq _))<=0;rw[A2r];exact Rat.le_refl
theorem A6F(f:I8 vr)(k:Nat):BxP 2 (Ta vr k):=λi J=>by
 have e:Ta vr k i=Eg vr k i:=Yao J;unfold A7v;rw[e];refine⟨λ_=>A2T f k i,λA=>?_⟩;have o:Eg vr k i=zI:=Yaj ZbC;rw[o];exact⟨⟨OJ _,OZ _⟩,⟨OJ _,OZ _⟩⟩
theorem MD(f:I8 vr)(k i:Nat):VZ (Eg vr k i)/\VB (Eg vr k i)/\(GT (Eg vr k i)).length<=84:=by
 obtain⟨⟨p,F,a⟩,⟨q,m,L⟩⟩:=A8O f k i;refine⟨⟨by rw[F];exact ZK a ZbH,by rw[m];exact ZK L ZbH⟩,⟨by rw[F];exact ZL a ZbH,by rw[m];exact ZL L ZbH⟩,?_⟩;unfold GT;rw[Yac,F,m];have:=NO a ZbH;have:=NO L ZbH;omega
theorem MC(f:I8 vr)(k:Nat):FG VZ (Ta vr k)/\Oct VB (Ta vr k)/\(Hg (Ta vr k)).length<=672:=by
 have e:∀i,i<8->Ta vr k i=Eg vr k i:=λi J=>Yao J;refine⟨λi J=>?_,⟨λi J=>?_,λi J=>Yaj ZbC⟩,?_⟩
 .rw [e i J];exact(MD f k i).1
 .rw [e i J];exact(MD f k i).2.1
 .exact Mr (e:=GT) (B:=84) λi J=>by rw[e i J];exact(MD f k i).2.2
def Srd(l:List (List Tm)):Prop:=∀k,k+1<l.length->Db (l.getD k default) (l.getD (k+1) default)<0
theorem YS{l:List (List Tm)}{a k:Nat}(t:a<=l.length):(l.take a++vc::l.drop a).getD k default=if k<a then l.getD k default else if k=a then vc else l.getD (k-1) default:=by
 have I:(l.take a).length=a:=ZgV
 rw[Yaa];by_cases q:k<a
 .rw [Yao q,Yaw ZbC,YaK,Yao q,Yaa]
 .rw [Yaj q, Yak ZbC, I]
  by_cases A:k=a
  .subst A
   rw[Yao rfl,Ydv];rfl
  .rw [Yaj A, show k-a=(k-a-1)+1 by omega, YcZ, YbT, Yaa]
   congr 2;omega
theorem A6g(h:Srd vN):Srd (GU o vN vc):=by
 unfold GU;split
 .exact h
 .rename_i g
  have t:=VX vc vN;intro k B;have C:(vN.take (FI vc vN)++vc::vN.drop (FI vc vN)).length=vN.length+1:=ZiI
  rw[C]at B;rw[YS t,YS t];have O:=λj=>VV vc (l:=vN) (k:=j);have v:=VY vc (l:=vN);generalize FI vc vN=a at *;by_cases q:k+1<a
  .rw [Yao ZbC, Yao q]
   exact h k ZbC
  .by_cases A:k+1=a
   .rw [Yao ZbC, Yaj q, Yao A]
    exact O k ZbC
   .by_cases K:k=a
    .rw [Yaj ZbC, Yao K, Yaj q, Yaj A]
     subst K;rw[Ycd];have E:¬Db (vN.getD k default) vc<0:=v ZbC;have J:JT (vN.getD k default) vc≠true:=λe=>g (.inr (.inr ⟨by omega,e⟩));rw[<-A3r]at J;have n:Db (vN.getD k default) vc≠0:=λe=>J (Yal e);have:=Yk (vN.getD k default) vc;omega
    .rw [Yaj ZbC, Yaj K, Yaj q, Yaj A, Ycd]
     have:=h (k-1) ZbC;rwa [show k-1+1=k by omega]at this
theorem XQ(plain:Bool)(L:List (List Tm)):∀k,k<=L.length->Srd (Lp plain L k)
 |0,_=>λk B=>by simp[Lp]at B
 |k+1,h=>by
  rw[JR plain L ZbC];exact A6g (XQ plain L k ZbC)
theorem VC{plain:Bool}{L:List (List Tm)}{q:List Tm}:∀{k},k<=L.length->q∈Lp plain L k->q.length≠0/\(plain=true->Im q≠0)
 |0,_,h=>by simp[Lp]at h
 |k+1,B,h=>by
  rw[JR plain L ZbC]at h;unfold GU at h;split at h
  .exact VC ZbC h
  .rename_i g
   have K:q∈Lp plain L k->q.length≠0/\(plain=true->Im q≠0):=λh=>VC ZbC h;rcases YbW.1 h with h | h
   .exact K (Ybh h)
   .rcases YaL.1 h with h | h
    .rw [h]
     exact⟨λe=>g (.inl e),λF e=>g (.inr (.inl ⟨F,e⟩))⟩
    .exact K (YbZ h)
theorem A8u(h:vL∈vc):Da vL.m 8<=Im vc:=by
 have N:∀(vc:List Tm) (a:Int),a<=vc.foldl (λd vL=>max d (Da vL.m 8)) a:=by
  intro vc
  induction vc with
  |nil=>intro a;exact YbP _
  |cons vL vc q=>
   intro a;have:=q (max a (Da vL.m 8));show a<=vc.foldl _ (max a (Da vL.m 8));omega
 have:∀(vc:List Tm) (a:Int),vL∈vc->Da vL.m 8<=vc.foldl (λd vL=>max d (Da vL.m 8)) a:=by
  intro vc
  induction vc with
  |nil=>intro a h;cases h
  |cons u vc q=>
   intro a h;rcases YaL.1 h with h | h
   .subst h
    have:=N vc (max a (Da vL.m 8));show Da vL.m 8<=vc.foldl _ (max a (Da vL.m 8));omega
   .exact q _ h
 exact this vc _ h
theorem MP.deg0(h:MP n vc)(c:vc.length≠0):0<=Im vc:=by
 have v:BA vc 0∈vc:=by
  rw[BA,Yaa,Yab ZbC];exact ZkJ
 have q:=A8u v;have A:=(Jl (h.b.ex _ v) 8 (Yai _)).1;omega
theorem A5f(plain:Bool){L:List (List Tm)}(s:∀P∈L,MP 9 P)(I:L.length<=6)(G:Int)(C:G=if plain=true then 1 else 0):Nc 2 G (rQ (JE plain L))/\(JE plain L).length<=6/\∀P∈JE plain L,MP 37 P:=by
 have o:=Ln plain L L.length (Yai _)
 have Y:∀P∈JE plain L,MP 37 P:=λP A=>by
  obtain⟨Z,c,rfl⟩:=NK (Yai _) A;exact(s Z c).nrm
 have K:=XQ plain L L.length (Yai _)
 have E:∀i,i<(JE plain L).length->MO (pAt (rQ (JE plain L)) i)=(JE plain L).getD i default/\pAt (rQ (JE plain L)) i=((JE plain L).getD i default).map EF:=λi J=>by
  have e:pAt (rQ (JE plain L)) i=((JE plain L).getD i default).map EF:=by
   unfold pAt rQ;rw[Yaa,Yav,Yaa,Yab J];rfl
  exact⟨by rw[e,Lj],e⟩
 refine⟨⟨by rw[rQ,Yap];exact Yau o ZbC,λi J=>?_⟩,Yau o I,Y⟩;rw[rQ,Yap]at J
 have v:(JE plain L).getD i default∈JE plain L:=by
  rw[Yaa,Yab J];exact ZkJ
 have B:=VC (Yai _) v;obtain⟨Z,c,p⟩:=NK (Yai _) v;refine⟨⟨?_,?_,?_⟩,λR=>?_⟩
 .rw [(E i J).2]
  exact(Y _ v).bd ZbH
 .rw [(E i J).1,C]
  have q:=(Y _ v).deg0 B.1;split
  .rename_i F
   have:=B.2 F;omega
  .exact q
 .rw [(E i J).1,p,A5R _ (s Z c).b.can]
  exact Mn.2 (SameL.refl _)
 .rw [(E i J).1, (E (i-1) ZbC).1]
  have:=K (i-1) (by show i-1+1<(JE plain L).length;omega);rwa [show i-1+1=i by omega]at this
def A0j(f:Nat->RQ×RQ):Nat->RQ×RQ:=λi=>if i<8 then f i else default
noncomputable def LA (M:Nat) (L:List (Nat×List (Nat->Int))) (V:List Int):Clm:=
 ⟨(Cz M L V).kind,(Cz M L V).p,(Cz M L V).n,(Cz M L V).d,(Cz M L V).r,(Cz M L V).o,(Cz M L V).l,(Cz M L V).s,(Cz M L V).b.map A0j⟩
theorem A2S(b:List (Nat->RQ×RQ)):Gl (b.map A0j)=Gl b:=by
 unfold Gl;rw[Ycj];congr 1
theorem A65(M:Nat)(L:List (Nat×List (Nat->Int)))(V:List Int):EM (LA M L V)=EM (Cz M L V):=by
 unfold EM LA
 dsimp only
 rw[A2S]
structure ClIn(V:List Int)(c:Clm):Prop where
 kd:1<=c.kind/\c.kind<=13
 p:∃P,c.p=P.map EF/\MP 9 P
 n:-1<=c.n/\c.n<=1000
 d:-1<=c.d/\c.d<=1000
 r:-1<=c.r/\c.r<=1000
 o:∃z,z<256/\c.o=CW z
 l:∃Q,c.l=rQ Q/\(∀P∈Q,MP 9 P)/\Q.length<=3
 s:(∀z∈c.s,-1<=z/\z<=1)/\c.s.length<=3
 b:(∀g∈c.b,∃k,g=Ta V k)/\c.b.length<=3
theorem UG(V:n<=10000)(h:∀P∈vN,MP n P)(I:vN.length<=40000):LZ PZ (rQ vN):=⟨λp F=>by
 obtain⟨P,L,rfl⟩:=YaD.1 F;exact(h P L).pz V,by rw[rQ,Yap];exact I⟩
theorem UH(V:n<=10000)(h:∀P∈vN,MP n P)(I:vN.length<=40000):PsB (rQ vN):=⟨λp F=>by
 obtain⟨P,L,rfl⟩:=YaD.1 F;exact(h P L).po V,by rw[rQ,Yap];omega⟩
theorem Pe{N B:Nat}(V:N<=60)(h:∀P∈vN,MP N P)(I:vN.length<=B)(C:B<128):(Bj (rQ vN)).length<=1+B*(31+24*N):=by
 have m:(rQ vN).length<=B:=by rw[rQ,Yap];exact I
 have q := FL (e := CH) (B := 31 + 24 * N) (l := rQ vN) ZbC fun p F => by
  obtain⟨P,L,rfl⟩:=YaD.1 F;exact(h P L).len V
 have A:(rQ vN).length*(31+24*N)<=B*(31+24*N):=YaX m (Yai _);show(Bp CH (rQ vN)).length<=_;omega
theorem ClIn.z{c:Clm}(h:ClIn vr c)(f:I8 vr):ClZ c:=by
 obtain⟨P,F,L⟩:=h.p;obtain⟨z,q,s⟩:=h.o;obtain⟨Q,m,A,I⟩:=h.l;have k:=h.kd;have n:=h.n;have d:=h.d;have r:=h.r;refine⟨by unfold IW;omega,by rw[F];exact L.pz ZbH,by unfold IW;omega,by unfold IW;omega,by unfold IW;omega,by rw[s];exact A2g q,by rw[m];exact UG ZbH A ZbC,⟨λz q=>?_,by have:=h.s.2;omega⟩,⟨λg R=>?_,by have:=h.b.2;omega⟩⟩
 .have:=h.s.1 z q
  unfold IW;omega
 .obtain ⟨k,rfl⟩:=h.b.1 g R
  exact(MC f k).1
theorem ClIn.cb{c:Clm}(h:ClIn vr c)(f:I8 vr):ClB c:=by
 obtain⟨P,F,L⟩:=h.p;obtain⟨z,q,s⟩:=h.o;obtain⟨Q,m,A,I⟩:=h.l;have k:=h.kd;have n:=h.n;have d:=h.d;have r:=h.r;refine⟨by unfold IB;omega,by rw[F];exact L.po ZbH,by unfold IB;omega,by unfold IB;omega,by unfold IB;omega,by rw[s];exact A2f q,by rw[m];exact UH ZbH A ZbC,⟨λz q=>?_,by have:=h.s.2;omega⟩,⟨λg R=>?_,by have:=h.b.2;omega⟩⟩
 .have:=h.s.1 z q
  unfold IB;omega
 .obtain ⟨k,rfl⟩:=h.b.1 g R
  exact(MC f k).2.1
theorem ClIn.len{c:Clm}(h:ClIn vr c)(f:I8 vr):(Ix c).length<=3300:=by
 obtain⟨P,F,L⟩:=h.p;obtain⟨z,q,s⟩:=h.o;obtain⟨Q,m,A,I⟩:=h.l;have k:=h.kd;have n:=h.n;have d:=h.d;have r:=h.r;have B:=KF (z:=c.kind) ZbC ZbC;have C:=KF (z:=c.n) ZbC ZbC;have E:=KF (z:=c.d) ZbC ZbC;have S:=KF (z:=c.r) ZbC ZbC;have V:=L.len ZbH;have W:=XS q;have X:=Pe ZbH A I ZbH
 have J := FL (e := Bs) (B := 2) (l := c.s) (by have := h.s.2; omega) fun z q => by
  have:=h.s.1 z q;exact KF ZbC ZbC
 have M := FL (e := Hg) (B := 672) (l := c.b) (by have := h.b.2; omega) fun g R => by
  obtain⟨k,rfl⟩:=h.b.1 g R;exact(MC f k).2.2
 have G:c.s.length*2<=3*2:=YaX h.s.2 (Yai _);have K:c.b.length*672<=3*672:=YaX h.b.2 (Yai _);unfold Ix;rw[F,s,m];simp only[Yac];have N:(Gm c.b).length=(Bp Hg c.b).length:=rfl;omega
theorem WP(kind n d r:Int){P:List Tm}(L:MP 9 P){z:Nat}(B:z<256)(C:∀P∈vN,MP 9 P)(I:vN.length<=3){s:List Int}(a:∀z∈s,-1<=z/\z<=1)(F:s.length<=3){N:Nat}(V:N<=3)(q:1<=kind/\kind<=13)(A:-1<=n/\n<=1000)(K:-1<=d/\d<=1000)(Q:-1<=r/\r<=1000):ClIn vr ⟨kind,P.map EF,n,d,r,CW z,rQ vN,s,((List.range N).map (Eg vr)).map A0j⟩:=
 ⟨q,⟨P,rfl,L⟩,A,K,Q,⟨z,B,rfl⟩,⟨vN,rfl,C,I⟩,⟨a,F⟩,λg R=>by
  obtain⟨f,p,rfl⟩:=YaD.1 R;obtain⟨k,_,rfl⟩:=YaD.1 p;exact⟨k,rfl⟩,by simpa using V⟩
theorem A2u{N:Nat}(h:∀P∈vN,MP N P)(i n:Nat):∀P∈pQ vN i n,MP N P:=λP L=>by
 obtain⟨j,_,rfl⟩:=YaD.1 L;split
 .exact MP.nil
 .rename_i c
  have O:(i+j)%vN.length<vN.length:=YaR _ ZbC;exact ZhE
theorem Wh(Q:List (List Tm))(i n:Nat):(pQ Q i n).length=n:=by simp[pQ]
theorem NN(L:List (Nat×List (Nat->Int))):∀P∈Ba L,MP 9 P:=λ_ h=>A95 h
theorem Ac6(L:List (Nat×List (Nat->Int))):MP 9 (pC L):=by
 unfold pC;split
 .exact MP.nil
 .rename_i c
  have O:2%(Ba L).length<(Ba L).length:=YaR _ ZbC;rw[Yaa,Yab O];exact NN L _ (Ybs O)
theorem Oa{N:Nat}(h:∀P∈vN,MP N P):Nf 2 (rQ vN):=λp F=>by
 obtain⟨P,L,rfl⟩:=YaD.1 F;exact(h P L).bd ZbH
theorem Zp (q : I8 vr) {N : Nat} (V : N ≤ 3) : TA 2 (((List.range N).map (Eg vr)).map A0j) := ⟨by simp; omega, fun g R => by
 obtain⟨f,p,rfl⟩:=YaD.1 R;obtain⟨k,_,rfl⟩:=YaD.1 p;exact A6F q k⟩
theorem A9o(V:List Int)(N:Nat):∀z∈(List.range N).map (λi=>(AR V i%128)%3-1),-1<=z/\z<=1:=λz n=>by
 obtain⟨i,_,rfl⟩:=YaD.1 n;omega
theorem A3D(M:Nat)(L:List (Nat×List (Nat->Int)))(V:List Int)(f:I8 V):ClIn V (LA M L V)/\∀K:Cor,K.n=2->Df K (LA M L V):=by
 have q:=Cj f 1;have A:=Cj f 3;have v:M%13<13:=YaR _ ZbH;have F:=Ac6 L;have B:(AR V 1%8%4).toNat<=3:=by omega
 have m:=A2u (NN L) 1 (AR V 1%8%4).toNat;have E:=Wh (Ba L) 1 (AR V 1%8%4).toNat;have H:∀P∈([]:List (List Tm)),MP 9 P:=λP h=>by cases h
 have y:∀z∈([]:List Int),-1<=z/\z<=1:=λz h=>by cases h
 unfold LA Cz;by_cases X:M%13=0\/M%13=1\/M%13=9
 .simp only[Yao X]
  refine⟨WP (z:=0) (N:=0) _ _ _ _ F ZbH H ZbH y ZbH ZbH ZbC ZbH ZbH ZbH,λK g=>?_⟩;rw[Df,Yao ZbV,g];exact⟨F.bd ZbH,⟨rfl,rfl,rfl⟩,rfl,rfl,rfl,rfl⟩
 simp only[Yaj X];by_cases C:M%13=3
 .simp only[Yao C]
  refine⟨WP (N:=0) _ _ _ _ (P:=[]) MP.nil ZbC m ZbC y ZbH ZbH ZbH ZbH ZbH ZbH,λK g=>?_⟩;rw[Df,Yaj ZbV,Yaj ZbV,Yao rfl,g];exact⟨⟨VG ZbC,by rw[rQ,Yap];omega,Oa m⟩,⟨rfl,rfl,rfl⟩,rfl,rfl,rfl⟩
 simp only[Yaj C];by_cases U:M%13=4
 .simp only[Yao U]
  refine⟨WP (z:=0) (N:=0) _ _ _ _ (P:=[]) MP.nil ZbH H ZbH y ZbH ZbH ZbH ZbC ZbC ZbH,λK g=>?_⟩;rw[Df,Yaj ZbV,Yaj ZbV,Yaj ZbV,Yao rfl,g];exact⟨⟨by dsimp only;omega,by dsimp only;omega,by unfold SmI;dsimp only;omega⟩,rfl,rfl,rfl,rfl,rfl,rfl⟩
 simp only[Yaj U];by_cases d:M%13=5
 .simp only[Yao d]
  refine⟨WP (z:=0) (N:=0) _ _ _ _ (P:=[]) MP.nil ZbH H ZbH y ZbH ZbH ZbH ZbC ZbC ZbC,λK g=>?_⟩;rw[Df,Yaj ZbV,Yaj ZbV,Yaj ZbV,Yaj ZbV,Yao rfl];exact⟨⟨by dsimp only;omega,by dsimp only;omega,by dsimp only;omega,by unfold SmI;dsimp only;omega⟩,rfl,rfl,rfl,rfl,rfl⟩
 simp only[Yaj d];by_cases G:M%13=6
 .simp only[Yao G]
  refine⟨WP (z:=0) _ _ _ _ (P:=[]) MP.nil ZbH H ZbH y ZbH B ZbH ZbH ZbH ZbH,λK g=>?_⟩;rw[Df,Yaj ZbV,Yaj ZbV,Yaj ZbV,Yaj ZbV,Yaj ZbV,Yao rfl,g];exact⟨Zp f B,⟨rfl,rfl,rfl⟩,rfl,rfl,rfl,rfl⟩
 simp only[Yaj G];by_cases n:M%13=7
 .simp only[Yao n]
  refine⟨WP (z:=0) _ _ _ _ F ZbH H ZbH (A9o V _) ZiI B ZbH ZbH ZbH ZbH,λK g=>?_⟩;rw[Df,Yaj ZbV,Yaj ZbV,Yaj ZbV,Yaj ZbV,Yaj ZbV,Yaj ZbV,Yao rfl,g];exact⟨⟨F.bd ZbH,Zp f B,by simp,A9o V _⟩,⟨rfl,rfl,rfl⟩,rfl,rfl⟩
 simp only[Yaj n];by_cases Q:M%13=10
 .simp only[Yao Q]
  refine⟨WP (z:=0) (N:=0) _ _ _ _ (P:=[]) MP.nil ZbH m ZbC y ZbH ZbH ZbH ZbH ZbH ZbH,λK g=>?_⟩;rw[Df,Yaj ZbV,Yaj ZbV,Yaj ZbV,Yaj ZbV,Yaj ZbV,Yaj ZbV,Yaj ZbV,Yao rfl,g];exact⟨⟨by rw[rQ,Yap];omega,Oa m⟩,⟨rfl,rfl,rfl⟩,rfl,rfl,rfl,rfl⟩
 simp only[Yaj Q];by_cases S:M%13=11\/M%13=12
 .simp only[Yao S]
  refine⟨WP (z:=0) (N:=0) _ _ _ _ (P:=[]) MP.nil ZbH H ZbH y ZbH ZbH ZbC ZbC ZbH ZbH,λK g=>?_⟩;rw[Df,Yaj ZbV,Yaj ZbV,Yaj ZbV,Yaj ZbV,Yaj ZbV,Yaj ZbV,Yaj ZbV,Yaj ZbV,Yao ZbV];exact⟨by unfold SmI;dsimp only;omega,⟨rfl,rfl⟩,rfl,rfl,rfl,rfl,rfl⟩
 simp only[Yaj S];refine⟨WP (z:=0) (N:=0) _ _ _ _ (P:=[]) MP.nil ZbH H ZbH y ZbH ZbH ZbC ZbH ZbH ZbH,λK g=>?_⟩;rw[Df,Yaj ZbV,Yao ZbV];exact⟨⟨rfl,rfl,rfl⟩,rfl,rfl,rfl,rfl,rfl⟩
theorem Ac9(L:List (Nat×List (Nat->Int)))(V:List Int):nK L V<=2:=by
 unfold nK;omega
theorem A62(L:List (Nat×List (Nat->Int)))(V:List Int):ON (Hc L V)/\CZ (Hc L V)/\CoB (Hc L V)/\(FY (Hc L V)).length<=12000/\(Hc L V).e.length<=2:=by
 have Y:=Yb L;have g:=Ac9 L V;have q:=A5f false (L:=(Ba L).take (nK L V)) (λP C=>NN L P (Ybh C)) ZgV 0 rfl;have A:=A5f true (L:=((Ba L).take (min (Ba L).length (nK L V+1))).drop (nK L V)) (λP C=>NN L P (Ybh (YbZ C))) ZeZ 1 rfl
 have B:(Hc L V).e.length<=2:=by
  have K:=Ln false ((Ba L).take (nK L V)) _ (Yai _);have Q:((Ba L).take (nK L V)).length<=2:=ZgV
  show(rQ _).length<=2;rw[rQ,Yap];exact Yau K Q
 refine⟨⟨by show(1:Int)<=2;decide,by show(2:Int)<=4;decide,q.1,A.1⟩,⟨by show IW 2;unfold IW;decide,UG ZbH q.2.2 ZbC,UG ZbH A.2.2 ZbC⟩,⟨by show IB 2;unfold IB;decide,UH ZbH q.2.2 ZbC,UH ZbH A.2.2 ZbC⟩,?_,B⟩;have a:=Pe ZbH q.2.2 q.2.1 ZbH;have b:=Pe ZbH A.2.2 A.2.1 ZbH;have c:=KF (z:=2) ZbH ZbH;unfold FY;simp only[Yac];show(Bs 2).length+(Bj (rQ _)).length+(Bj (rQ _)).length<=_;omega
open Classical
def He(κ:Int)(Q:List (List Tm))(V:List Int)(m c:Nat):Crt:=
 ⟨(DO κ Q V m c).n,(DO κ Q V m c).cof,(DO κ Q V m c).g,(DO κ Q V m c).o,(DO κ Q V m c).c,(DO κ Q V m c).q,(DO κ Q V m c).s,(DO κ Q V m c).r,(DO κ Q V m c).a,(DO κ Q V m c).sq,(DO κ Q V m c).x,(DO κ Q V m c).b.map A0j⟩
theorem A64(P:Int)(Q:List (List Tm))(V:List Int)(m c:Nat):DI (He P Q V m c)=DI (DO P Q V m c):=by
 rw[WM,WM];unfold He
 dsimp only
 rw[A2S]
theorem A54(Q:List Rat):∀n,Vy Q n=0\/Q.getD (Vy Q n-1) default≠0
 |0=>.inl rfl
 |n+1=>by
  unfold Vy;split
  .exact A54 Q n
  .rename_i h
   exact .inr (by rw[Ycd];exact h)
theorem A0p(f:I8 vr)(n:Nat):(∀q∈La vr n,RSz q 1)/\(La vr n).length<=n+1:=by
 constructor
 .intro q m
  obtain⟨z,A,rfl⟩:=YaD.1 (Ybh m);have:=f z (Ybh A);exact XY ZbC ZbC
 .unfold La TJ
  rw[YaO,Yap,YaO];omega
theorem A5l(f:I8 vr)(g:n<=10):ShP ((La vr n).map Mq):=by
 refine⟨by rw[Yap];have:=(A0p f n).2;omega,λq m=>?_,?_⟩
 .obtain ⟨p,_,rfl⟩:=YaD.1 m
  exact OJ p
 .rw [Yap]
  have i:=A55 (TJ vr n) (TJ vr n).length
  have I:(La vr n).length=Vy (TJ vr n) (TJ vr n).length:=by
   unfold La;exact ZgV
  rcases A54 (TJ vr n) (TJ vr n).length with h | h
  .exact .inl (by rw[I];exact h)
  .by_cases c:(La vr n).length=0
   .exact .inl c
   .refine .inr ?_
    have O:(La vr n).length-1<(La vr n).length:=by omega
    have e:(La vr n).getD ((La vr n).length-1) default=(TJ vr n).getD (Vy (TJ vr n) (TJ vr n).length-1) default:=by
     rw[I];unfold La;rw[Yaa,YaK,Yao ZbC,Yaa]
    rw[Yaa,Yav,Yab O];show OQ (Mq _)≠0;rw[OZ];rw[Yaa,Yab O]at e;have e:(La vr n)[(La vr n).length-1]=(TJ vr n).getD (Vy (TJ vr n) (TJ vr n).length-1) default:=e;rw[e];exact h
theorem Ya(Q:List (List Tm))(c k:Nat):(tQ (GJ Q c k)).length=k:=by simp[tQ,GJ]
theorem A2k(q:∀P∈vN,MP 9 P)(c k:Nat):∀l∈tQ (GJ vN c k),∃R,l=rQ R/\(∀P∈R,MP 9 P)/\R.length=c:=λl I=>by
 obtain⟨R,E,rfl⟩:=YaD.1 I;obtain⟨i,_,rfl⟩:=YaD.1 E;exact⟨_,rfl,A2u q _ _,Wh _ _ _⟩
theorem VA (q : ∀ P ∈ vN, MP 9 P) (c k : Nat) : JK 2 ((k : Nat) : Int) ((c : Nat) : Int) (tQ (GJ vN c k)) := ⟨by rw [Ya], fun l I => by
 obtain⟨R,rfl,E,G⟩:=A2k q c k l I;exact⟨by rw[rQ,Yap,G],Oa E⟩⟩
structure TIn(t:List (List (List RTm))):Prop where
 e:∀l∈t,∃R,l=rQ R/\(∀P∈R,MP 9 P)/\R.length<=3
 n:t.length<=7
theorem TIn.nil:TIn []:=⟨λl h=>ZdB,by decide⟩
theorem WV(C:∀P∈vN,MP 9 P){c k:Nat}(G:c<=3)(B:k<=7):TIn (tQ (GJ vN c k)):=⟨λl I=>by
 obtain⟨R,q,A,K⟩:=A2k C c k l I;exact⟨R,q,A,by omega⟩,by rw[Ya];exact B⟩
theorem TIn.z{t:List (List (List RTm))}(h:TIn t):LZ (LZ PZ) t:=⟨λl I=>by
 obtain⟨R,rfl,A,K⟩:=h.e l I;exact UG ZbH A ZbC,by have:=h.n;omega⟩
theorem TIn.b{t:List (List (List RTm))}(h:TIn t):TaB t:=⟨λl I=>by
 obtain⟨R,rfl,A,K⟩:=h.e l I;exact UH ZbH A ZbC,by have:=h.n;omega⟩
theorem TIn.len{t:List (List (List RTm))}(h:TIn t):(BQ t).length<=5195:=by
 have q := FL (e := Bj) (B := 742) (l := t) (by have := h.n; omega) fun l I => by
  obtain⟨R,rfl,A,K⟩:=h.e l I;exact Yau (Pe ZbH A K ZbH) ZbH
 have A:t.length*742<=7*742:=YaX h.n (Yai _);show(Bp Bj t).length<=_;omega
structure UIn(l:List RQ):Prop where
 e:∀q∈l,∃p,q=Mq p/\RSz p 1
 n:l.length<=4
theorem UIn.nil:UIn []:=⟨λl h=>ZdB,by decide⟩
theorem UIn.sm(f:I8 vr)(g:n<=3):UIn ((La vr n).map Mq):=⟨λq m=>by
 obtain⟨p,F,rfl⟩:=YaD.1 m;exact⟨p,rfl,(A0p f n).1 p F⟩,by rw[Yap];have:=(A0p f n).2;omega⟩
theorem UIn.z{l:List RQ}(h:UIn l):LZ QZ l:=⟨λq m=>by
 obtain⟨p,rfl,F⟩:=h.e q m;exact ZK F ZbH,by have:=h.n;omega⟩
theorem UIn.b{l:List RQ}(h:UIn l):UnB l:=⟨λq m=>by
 obtain⟨p,rfl,F⟩:=h.e q m;exact ZL F ZbH,by have:=h.n;omega⟩
theorem UIn.len{l:List RQ}(h:UIn l):(GW l).length<=41:=by
 have A := FL (e := CD) (B := 10) (l := l) (by have := h.n; omega) fun q m => by
  obtain⟨p,rfl,F⟩:=h.e q m;exact NO F ZbH
 have B:l.length*10<=4*10:=YaX h.n (Yai _);show(Bp CD l).length<=_;omega
structure CrIn(V:List Int)(e:Crt):Prop where
 n:0<=e.n/\e.n<=64
 cof:∃Q,e.cof=rQ Q/\(∀P∈Q,MP 9 P)/\Q.length<=3
 g:∃Q,e.g=rQ Q/\(∀P∈Q,MP 9 P)/\Q.length<=3
 o:∃z,z<256/\e.o=CW z
 c:TIn e.c
 q:TIn e.q
 s:TIn e.s
 rl:∀i,-1000<=e.r.l i/\e.r.l i<=1000
 rz:∀i,8<=i->e.r.l i=0
 rq:UIn e.r.q
 rr:∀i,UIn (e.r.r i)
 r8:∀i,8<=i->e.r.r i=[]
 a:(∀x∈e.a,∃k i,x=Eg V k i)/\e.a.length<=3
 sq:(∀x∈e.sq,∃i P,x=(Mq (Rat.divInt (AR V i) 5),P.map EF)/\MP 9 P)/\e.sq.length<=3
 x:(∀x∈e.x,∃k,x=ptF V k)/\e.x.length<=3
 b:(∀g∈e.b,∃k,g=Ta V k)/\e.b.length<=3
theorem VU(f:I8 vr)(k:Nat)(J:n<8):∃p,ptF vr k n=Mq p/\RSz p 1:=by
 unfold ptF;split
 .have:=Cj f k
  exact⟨_,rfl,XY ZbC ZbC⟩
 .exact ⟨_,rfl,XY ZbH ZbH⟩
theorem A5g(f:I8 vr)(i:Nat):RSz (Rat.divInt (AR vr i) 5) 2:=by
 have:=Cj f i;exact Og ZbC ZbC ZbH ZbH
theorem CrIn.z{e:Crt}(h:CrIn vr e)(f:I8 vr):CrZ e:=by
 obtain⟨X,W,Z,d⟩:=h.cof;obtain⟨Y,o,K,A⟩:=h.g;obtain⟨z,q,s⟩:=h.o;have n:=h.n;refine⟨by unfold IW;omega,by rw[W];exact UG ZbH Z ZbC,by rw[o];exact UG ZbH K ZbC,by rw[s];exact A2g q,h.c.z,h.q.z,h.s.z,⟨λi _=>?_,h.rq.z,λi _=>(h.rr i).z⟩,⟨λx C=>?_,by have:=h.a.2;omega⟩,⟨λx C=>?_,by have:=h.sq.2;omega⟩,⟨λx C i J=>?_,by have:=h.x.2;omega⟩,⟨λg R=>?_,by have:=h.b.2;omega⟩⟩
 .have:=h.rl i
  unfold IW;omega
 .obtain ⟨k,i,rfl⟩:=h.a.1 x C
  exact(MD f k i).1
 .obtain ⟨i,P,rfl,L⟩:=h.sq.1 x C
  exact⟨ZK (A5g f i) ZbH,L.pz ZbH⟩
 .obtain ⟨k,rfl⟩:=h.x.1 x C
  obtain⟨p,F,a⟩:=VU f k J;rw[F];exact ZK a ZbH
 .obtain ⟨k,rfl⟩:=h.b.1 g R
  exact(MC f k).1
theorem CrIn.cb{e:Crt}(h:CrIn vr e)(f:I8 vr):CrB e:=by
 obtain⟨X,W,Z,d⟩:=h.cof;obtain⟨Y,o,K,A⟩:=h.g;obtain⟨z,q,s⟩:=h.o;have n:=h.n;refine⟨by unfold IB;omega,by rw[W];exact UH ZbH Z ZbC,by rw[o];exact UH ZbH K ZbC,by rw[s];exact A2f q,h.c.b,h.q.b,h.s.b,⟨⟨λi _=>?_,h.rz⟩,h.rq.b,⟨λi _=>(h.rr i).b,h.r8⟩⟩,⟨λx C=>?_,by have:=h.a.2;omega⟩,⟨λx C=>?_,by have:=h.sq.2;omega⟩,⟨λx C=>?_,by have:=h.x.2;omega⟩,⟨λg R=>?_,by have:=h.b.2;omega⟩⟩
 .have:=h.rl i
  unfold IB;omega
 .obtain ⟨k,i,rfl⟩:=h.a.1 x C
  exact(MD f k i).2.1
 .obtain ⟨i,P,rfl,L⟩:=h.sq.1 x C
  exact⟨ZL (A5g f i) ZbH,L.po ZbH⟩
 .obtain ⟨k,rfl⟩:=h.x.1 x C
  refine⟨λi J=>?_,λi J=>?_⟩
  .obtain ⟨p,F,a⟩:=VU f k J
   rw[F];exact ZL a ZbH
  .unfold ptF
   exact ZjW
 .obtain ⟨k,rfl⟩:=h.b.1 g R
  exact(MC f k).2.1
theorem CrIn.len{e:Crt}(h:CrIn vr e)(f:I8 vr):(Kk e).length<=22000:=by
 obtain⟨Y,W,Z,d⟩:=h.cof;obtain⟨b,o,K,A⟩:=h.g;obtain⟨z,q,s⟩:=h.o;have n:=h.n;have E:=KF (z:=e.n) ZbC ZbC;have G:=Pe ZbH Z d ZbH;have c:=Pe ZbH K A ZbH;have S:=XS q;have V:=h.c.len;have N:=h.q.len;have X:=h.s.len
 have O:(JH e.r).length<=400:=by
  unfold JH;simp only[Yac]
  have j:=Mr (e:=Bs) (f:=e.r.l) (B:=2) λi _=>by
   have:=h.rl i;exact KF ZbC ZbC
  have B:=h.rq.len;have I:=Mr (e:=GW) (f:=e.r.r) (B:=41) λi _=>(h.rr i).len;have W:(Gz e.r.l).length=(Kb Bs e.r.l).length:=rfl;omega
 have Q := FL (e := GT) (B := 84) (l := e.a) (by have := h.a.2; omega) fun x C => by
  obtain⟨k,i,rfl⟩:=h.a.1 x C;exact(MD f k i).2.2
 have l := FL (e := Kt) (B := 265) (l := e.sq) (by have := h.sq.2; omega) fun x C => by
  obtain⟨i,P,rfl,L⟩:=h.sq.1 x C;unfold Kt;rw[Yac];have:=NO (A5g f i) ZbH;have:=L.len ZbH
  dsimp only
  omega
 have m := FL (e := QP) (B := 80) (l := e.x) (by have := h.x.2; omega) fun x C => by
  obtain⟨k,rfl⟩:=h.x.1 x C
  exact Mr (e:=CD) (B:=10) λi J=>by
   obtain⟨p,F,a⟩:=VU f k J;rw[F];exact NO a ZbH
 have r := FL (e := Hg) (B := 672) (l := e.b) (by have := h.b.2; omega) fun g R => by
  obtain⟨k,rfl⟩:=h.b.1 g R;exact(MC f k).2.2
 have M:e.a.length*84<=3*84:=YaX h.a.2 (Yai _);have u:e.sq.length*265<=3*265:=YaX h.sq.2 (Yai _);have v:e.x.length*80<=3*80:=YaX h.x.2 (Yai _);have w:e.b.length*672<=3*672:=YaX h.b.2 (Yai _);have t:(Gm e.b).length=(Bp Hg e.b).length:=rfl;unfold Kk;rw[W,o,s];simp only[Yac];omega
theorem Ny:OK rs0:=⟨λ_ _=>rfl,rfl,λ_ _=>rfl⟩
theorem Acg(V:List Int):gN V<=3:=by
 unfold gN;omega
theorem AbM(h:n<=3):((n*(n-1)/2:Nat):Int)=((n:Nat):Int)*(((n:Nat):Int)-1)/2:=by
 rcases(by omega:n=0\/n=1\/n=2\/n=3)with rfl | rfl | rfl | rfl<;>rfl
theorem AbQ(h:n<=3):((1+n*(n+1)/2:Nat):Int)=1+((n:Nat):Int)*(((n:Nat):Int)+1)/2:=by
 rcases(by omega:n=0\/n=1\/n=2\/n=3)with rfl | rfl | rfl | rfl<;>rfl
theorem AbR(h:n<=3):n*(n-1)/2<=7:=by
 rcases(by omega:n=0\/n=1\/n=2\/n=3)with rfl | rfl | rfl | rfl<;>decide
theorem AbP(h:n<=3):1+n*(n+1)/2<=7:=by
 rcases(by omega:n=0\/n=1\/n=2\/n=3)with rfl | rfl | rfl | rfl<;>decide
theorem Ac4(h:∀P∈vN,MP 9 P)(i:Nat):MP 9 (pP vN i):=by
 unfold pP;split
 .exact MP.nil
 .rename_i c
  have O:i%vN.length<vN.length:=YaR _ ZbC;exact ZhE
theorem A9U(h:∀P∈vN,MP 9 P)(V:List Int)(B:n<=3):(∀x∈sqL vN V n,∃i P,x=(Mq (Rat.divInt (AR V i) 5),P.map EF)/\MP 9 P)/\(sqL vN V n).length<=3:=⟨λx C=>by
 obtain⟨i,_,rfl⟩:=YaD.1 C;exact⟨i,_,rfl,Ac4 h i⟩,by simp[sqL];omega⟩
theorem Ab3(V:List Int)(B:n<=3):(∀x∈atL V n,∃n i,x=Eg V n i)/\(atL V n).length<=3:=⟨λx C=>by
 obtain⟨i,_,rfl⟩:=YaD.1 C;exact⟨i,0,rfl⟩,by simp[atL];omega⟩
theorem Aab(V:List Int)(B:n<=3):(∀x∈ptL V n,∃n,x=ptF V n)/\(ptL V n).length<=3:=⟨λx C=>by
 obtain⟨i,_,rfl⟩:=YaD.1 C;exact⟨i,rfl⟩,by simp[ptL];omega⟩
theorem AaX(V:List Int)(B:n<=3):(∀g∈(bxL V n).map A0j,∃n,g=Ta V n)/\((bxL V n).map A0j).length<=3:=⟨λx C=>by
 obtain⟨f,p,rfl⟩:=YaD.1 C;obtain⟨i,_,rfl⟩:=YaD.1 p;exact⟨i+1,rfl⟩,by simp[bxL];omega⟩
theorem ST{Q1 Q2:List (List Tm)}{z:Nat}{c q s:List (List (List RTm))}{K:List (RQ×List RTm)}{x:List (Nat->RQ)}{b:List (Nat->RQ×RQ)}(I:0<=a/\a<=64)(A:∀P∈Q1,MP 9 P)(d:Q1.length<=3)(B:∀P∈Q2,MP 9 P)(J:Q2.length<=3)(n:z<256)(G:TIn c)(m:TIn q)(F:TIn s)(r:(∀x∈K,∃i P,x=(Mq (Rat.divInt (AR vr i) 5),P.map EF)/\MP 9 P)/\K.length<=3)(C:(∀y∈x,∃k,y=ptF vr k)/\x.length<=3)(E:(∀g∈b,∃k,g=Ta vr k)/\b.length<=3):CrIn vr ⟨a,rQ Q1,rQ Q2,CW z,c,q,s,rs0,[],K,x,b⟩:=
 ⟨I,⟨Q1,rfl,A,d⟩,⟨Q2,rfl,B,J⟩,⟨z,n,rfl⟩,G,m,F,λi=>by show(-1000:Int)<=0/\(0:Int)<=1000;decide,λi _=>rfl,UIn.nil,λi=>UIn.nil,λi _=>rfl,⟨λx h=>ZdB,Yay _⟩,r,C,E⟩
theorem KG:(∀x∈([]:List (RQ×List RTm)),∃i P,x=(Mq (Rat.divInt (AR vr i) 5),P.map EF)/\MP 9 P)/\([]:List (RQ×List RTm)).length<=3:=⟨λx h=>ZdB,by decide⟩
theorem Nm:(∀y∈([]:List (Nat->RQ)),∃k,y=ptF vr k)/\([]:List (Nat->RQ)).length<=3:=⟨λx h=>ZdB,by decide⟩
theorem Nn:(∀g∈([]:List (Nat->RQ×RQ)),∃k,g=Ta vr k)/\([]:List (Nat->RQ×RQ)).length<=3:=⟨λx h=>ZdB,by decide⟩
theorem A5u(V:List Int)(f:I8 V)(i:Nat):-1000<=(rsM V).l i/\(rsM V).l i<=1000:=by
 have:=Cj f 5;show -1000<=(if i=0 then(1:Int)else if i=1 then AR V 5 else 0)/\(if i=0 then(1:Int)else if i=1 then AR V 5 else 0)<=1000;split
 .decide
 .split<;>omega
theorem AbX(V:List Int)(f:I8 V)(i:Nat):UIn ((rsM V).r i):=by
 show UIn (if i=1 then(La V 2).map Mq else[]);split
 .exact UIn.sm f ZbH
 .exact UIn.nil
theorem AbY(V:List Int)(f:I8 V):WW 2 (rsM V):=by
 refine⟨A5l f ZbH,λi _=>?_,λi J=>⟨?_,?_,λA=>⟨?_,?_⟩⟩⟩
 .show ShP (if i=1 then(La V 2).map Mq else[])
  split
  .exact A5l f ZbH
  .exact ⟨by decide,λq h=>ZdB,.inl rfl⟩
 .have:=A5u V f i
  omega
 .have:=A5u V f i
  omega
 .show (if i=0 then(1:Int)else if i=1 then AR V 5 else 0)=0
  exact ZjW
 .show (if i=1 then(La V 2).map Mq else[]).length=0
  rw[Yaj ZbC];rfl
theorem A8J(f:I8 vr){K:Cor}{C:Clm}{m c:Nat}(B:K.n=2)(v:K.e.length=m)(w:m<=2)(G:C.l.length=c)(V:c<=3){κ:Int}(X:C.kind=κ)(o:1<=κ/\κ<=13)(I:∀P∈vN,MP 9 P):DT K C (He κ vN vr m c)/\CrIn vr (He κ vN vr m c):=by
 have R:=Acg vr;have z:(0:Int)<=0/\(0:Int)<=64:=by decide
 have zg:(0:Int)<=((gN vr+1:Nat):Int)/\((gN vr+1:Nat):Int)<=64:=by omega
 have Z:=A2u I 1 m;have d:=Wh vN 1 m;have Q:=A2u I 0 (gN vr);have Y:=Wh vN 0 (gN vr);have H:∀P∈([]:List (List Tm)),MP 9 P:=λP h=>by cases h
 have s:((((rQ (pQ vN 1 m)).length:Nat):Int)=((K.e.length:Nat):Int))/\Nf K.n (rQ (pQ vN 1 m)):=⟨by rw[rQ,Yap,d,v],by rw[B];exact Oa Z⟩;have b:(rQ (pQ vN 0 (gN vr))).length=gN vr:=by rw[rQ,Yap,Y]
 have U:JA 2 (rQ (pQ vN 0 (gN vr))):=⟨by rw[b];omega,Oa Q⟩;have oz:OValid (CW (gN vr)):=VG ZbC;have u:JK 2 (((rQ (pQ vN 0 (gN vr))).length:Nat):Int) ((K.e.length:Nat):Int) (tQ (GJ vN m (gN vr))):=by rw[b,v];exact VA I _ _
 have r:JK 2 ((K.e.length:Nat):Int) (((rQ (pQ vN 0 (gN vr))).length:Nat):Int) (tQ (GJ vN (gN vr) m)):=by rw[b,v];exact VA I _ _
 have T:JK 2 ((((rQ (pQ vN 0 (gN vr))).length:Nat):Int)*((((rQ (pQ vN 0 (gN vr))).length:Nat):Int)-1)/2) (((rQ (pQ vN 0 (gN vr))).length:Nat):Int) (tQ (GJ vN (gN vr) (gN vr*(gN vr-1)/2))):=by rw[b,<-AbM R];exact VA I _ _
 have j:TIn (tQ (GJ vN m (gN vr))):=WV I ZbC ZbC;have l:TIn (tQ (GJ vN (gN vr) m)):=WV I ZbC ZbC;have i3:TIn (tQ (GJ vN (gN vr) (gN vr*(gN vr-1)/2))):=WV I ZbC (AbR R);by_cases M:κ=1
 .have W:DO κ vN vr m c=⟨0, rQ (pQ vN 1 m), [], [], [], [], [], rs0, [], [], [], []⟩:=by unfold DO;rw [Yao M]
  unfold He;rw[W];refine⟨?_,ST (z:=0) (Q2:=[]) z Z ZbC H ZbH ZbH TIn.nil TIn.nil TIn.nil KG Nm Nn⟩;unfold DT;rw[X,Yao M];exact⟨s,rfl,rfl,rfl,rfl,rfl,rfl,Ny,rfl,rfl,rfl,rfl⟩
 by_cases y:κ=3
 .have W:DO κ vN vr m c=⟨((gN vr+1:Nat):Int), rQ (pQ vN 1 m), [], [], [], [], [], rs0, [], [], [], []⟩:=by unfold DO;rw [Yaj M, Yao y]
  unfold He;rw[W];refine⟨?_,ST (z:=0) (Q2:=[]) zg Z ZbC H ZbH ZbH TIn.nil TIn.nil TIn.nil KG Nm Nn⟩;unfold DT;rw[X,Yaj M,Yaj (show¬(κ=2\/κ=4\/κ=5\/κ=6)by omega),Yao y];exact⟨⟨by dsimp only;omega,by dsimp only;omega,s⟩,rfl,rfl,rfl,rfl,rfl,Ny,rfl,rfl,rfl,rfl⟩
 by_cases N:κ=9\/κ=10
 .have W:DO κ vN vr m c=⟨0, rQ (pQ vN 1 m), [], [], [], [], [], rs0, [], sqL vN vr (gN vr), [], []⟩:=by unfold DO;rw [Yaj M, Yaj y, Yao N]
  have a:=A9U I vr R;unfold He;rw[W];refine⟨?_,ST (z:=0) (Q2:=[]) z Z ZbC H ZbH ZbH TIn.nil TIn.nil TIn.nil a Nm Nn⟩;unfold DT;rw[X,Yaj M,Yaj (show¬(κ=2\/κ=4\/κ=5\/κ=6)by omega),Yaj y,Yaj (show¬(κ=7\/κ=8)by omega),Yao N,B];refine⟨⟨Yau a.2 ZbH,λx q=>?_,s⟩,rfl,rfl,rfl,rfl,rfl,rfl,Ny,rfl,rfl,rfl⟩;obtain⟨i,P,rfl,L⟩:=a.1 x q;exact⟨OJ _,L.bd ZbH⟩
 by_cases S:κ=11
 .have W:DO κ vN vr m c=⟨0, [], [], [], tQ (GJ vN m (1+c*(c+1)/2)), [], [], rs0, [], [], [], []⟩:=by unfold DO;rw [Yaj M, Yaj y, Yaj N, Yao S]
  unfold He;rw[W];refine⟨?_,ST (z:=0) (Q1:=[]) (Q2:=[]) z H ZbH H ZbH ZbH (WV I ZbC (AbP V)) TIn.nil TIn.nil KG Nm Nn⟩;unfold DT;rw[X,Yaj M,Yaj (show¬(κ=2\/κ=4\/κ=5\/κ=6)by omega),Yaj y,Yaj (show¬(κ=7\/κ=8)by omega),Yaj N,Yao S,B];refine⟨?_,rfl,rfl,rfl,rfl,rfl,rfl,Ny,rfl,rfl,rfl,rfl⟩;rw[G,v,<-AbQ V];exact VA I _ _
 by_cases O:κ=12
 .have W:DO κ vN vr m c=⟨0, [], rQ (pQ vN 0 (gN vr)), CW (gN vr), tQ (GJ vN m (gN vr)), [], [], rs0, [], [], [], []⟩:=by unfold DO;rw [Yaj M, Yaj y, Yaj N, Yaj S, Yao O]
  unfold He;rw[W];refine⟨?_,ST (Q1:=[]) z H ZbH Q ZbC ZbC j TIn.nil TIn.nil KG Nm Nn⟩;unfold DT;rw[X,Yaj M,Yaj (show¬(κ=2\/κ=4\/κ=5\/κ=6)by omega),Yaj y,Yaj (show¬(κ=7\/κ=8)by omega),Yaj N,Yaj S,Yao O,B];exact⟨⟨U,oz,u⟩,rfl,rfl,rfl,rfl,Ny,rfl,rfl,rfl,rfl⟩
 by_cases e:κ=13
 .have W:DO κ vN vr m c=⟨0, [], [], [], [], [], [], rs0, [], [], ptL vr (gN vr), bxL vr (gN vr)⟩:=by unfold DO;rw [Yaj M, Yaj y, Yaj N, Yaj S, Yaj O, Yao e]
  have q:=Aab vr R;have E:=AaX vr R;unfold He;rw[W];refine⟨?_,ST (z:=0) (Q1:=[]) (Q2:=[]) z H ZbH H ZbH ZbH TIn.nil TIn.nil TIn.nil KG q E⟩;unfold DT;rw[X,Yaj M,Yaj (show¬(κ=2\/κ=4\/κ=5\/κ=6)by omega),Yaj y,Yaj (show¬(κ=7\/κ=8)by omega),Yaj N,Yaj S,Yaj O,Yao e,B];refine⟨⟨Yau q.2 ZbH,λx h=>?_,Yau E.2 ZbH,λg h=>?_⟩,rfl,rfl,rfl,rfl,rfl,rfl,rfl,Ny,rfl,rfl⟩
  .obtain ⟨k,rfl⟩:=q.1 x h
   intro i J;obtain⟨p,F,a⟩:=VU f k J;refine⟨by rw[F];exact OJ _,λA=>?_⟩;unfold ptF;rw[Yaj ZbC,Yao J];exact OZ _
  .obtain ⟨k,rfl⟩:=E.1 g h
   exact A6F f k
 by_cases n:κ=7\/κ=8
 .have W:DO κ vN vr m c=⟨0, [], rQ (pQ vN 0 (gN vr)), CW (gN vr), tQ (GJ vN m (gN vr)), tQ (GJ vN (gN vr) m), tQ (GJ vN (gN vr) (gN vr*(gN vr-1)/2)), rsM vr, atL vr (gN vr), [], [], []⟩:=by unfold DO;rw [Yaj M, Yaj y, Yaj N, Yaj S, Yaj O, Yaj e, Yao n]
  have t:=Ab3 vr R;unfold He;rw[W];refine⟨?_,⟨by show(0:Int)<=0/\(0:Int)<=64;decide,⟨[],rfl,H,by decide⟩,⟨_,rfl,Q,by omega⟩,⟨_,by omega,rfl⟩,j,l,i3,A5u vr f,λi J=>?_,UIn.sm f ZbH,AbX vr f,λi J=>?_,t,KG,Nm,Nn⟩⟩
  .unfold DT
   rw[X,Yaj M,Yaj (show¬(κ=2\/κ=4\/κ=5\/κ=6)by omega),Yaj y,Yao n,B];refine⟨⟨by unfold Mi;rw[B];exact⟨U,oz,u,r,T⟩,Yau t.2 ZbH,λx q=>?_,AbY vr f⟩,rfl,rfl,rfl,rfl,rfl⟩;obtain⟨k,i,rfl⟩:=t.1 x q;exact A2T f k i
  .show (if i=0 then(1:Int)else if i=1 then AR vr 5 else 0)=0
   exact ZjW
  .show (if i=1 then(La vr 2).map Mq else[])=[]
   rw[Yaj ZbC]
 have W:DO κ vN vr m c=⟨0,[],rQ (pQ vN 0 (gN vr)),CW (gN vr),tQ (GJ vN m (gN vr)),tQ (GJ vN (gN vr) m),tQ (GJ vN (gN vr) (gN vr*(gN vr-1)/2)),rs0,[],[],[],[]⟩:=by unfold DO;rw[Yaj M,Yaj y,Yaj N,Yaj S,Yaj O,Yaj e,Yaj n]
 unfold He;rw[W];refine⟨?_,ST (Q1:=[]) z H ZbH Q ZbC ZbC j l i3 KG Nm Nn⟩;unfold DT;rw[X,Yaj M,Yao (show κ=2\/κ=4\/κ=5\/κ=6 by omega)];exact⟨by unfold Mi;rw[B];exact⟨U,oz,u,r,T⟩,rfl,rfl,Ny,rfl,rfl,rfl,rfl⟩
end
