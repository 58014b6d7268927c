/- Part 31 of the proof of claimClashes_holds. No condition. -/
import Derived.Test.YtcikkglcoeedlaaGreatCx19
import Derived.Test.YtcikkglcoeedlaaGreatCx21
import Derived.Test.YtcikkglcoeedlaaGreatCx25
import Derived.Test.YtcikkglcoeedlaaGreatCx27
import Derived.Test.YtcikkglcoeedlaaGreatCx30
set_option linter.unusedSimpArgs false
set_option linter.unusedVariables false
set_option maxRecDepth 100000
set_option maxHeartbeats 4000000
namespace Go.Proofs.YtcikkglcoeedlaaGreat
variable{r vu ux:D}{a J vQ vR ut uz:Int}
section
open Go.RowKit
def sw4(kind Q n e d v r I:Int):Bool:=(kind==Q&&(kind==5||kind==6))&&(n != e||d != v||r != I)
def sw6(q:Bool)(kind Q:Int)(s c:List Int):Bool:=(kind==8&&Q==8&&q) && !Rg s c
def Ve(q:Bool)(kind Q n e d v r I:Int)(s c:List Int):Bool:=
 (kind==1&&Q==2&&q)||sw4 kind Q n e d v r I||sw6 q kind Q s c||((kind==10&&Q==8&&q)&&decide (((GC c (-1):Nat):Int)>0))
theorem Ng(kind g:Int)(P w:List Tm)(n e d a r O:Int)(o k:List (Nat->Int))(l X:List (List RTm))(s c:List Int)(b x:List (Nat->RQ×RQ))(A:s.length<=1000000)(H:c.length<=1000000)(E:b.length<=1000000)(i:x.length<=1000000)(u J v S:Int×Int)(R:EA 1099511627776 kind n d=u)(xd:EA 1099511627776 g e a=J)(F:Gp 1099511627776 kind n r (b.length:Nat)=v)(p:Gp 1099511627776 g e O (x.length:Nat)=S) :
  Abs Tryz.prog 72 [AL (IV kind P n d r o l s b),AL (IV g w e a O k X c x)] (ex (.bool (Ve (Fa P w) kind g n e d a r O s c||rgP kind u J v S||(kind==2&&J.2==0)))):=by
 have Z:=Wk P w;have T:=FL s (-1) A;have b1:=FL c (-1) H;have a2:=FL s 0 A;have b2:=FL c 0 H;have a3:=FL s 1 A;have b3:=FL c 1 H;have Q:=Ni ⟨kind,P.map Em,n,d,r,o,l,s,b⟩ E;have xe:=Ni ⟨g,w.map Em,e,a,O,k,X,c,x⟩ i;have cr:=PF ⟨kind,P.map Em,n,d,r,o,l,s,b⟩ E;have xh:=PF ⟨g,w.map Em,e,a,O,k,X,c,x⟩ i;rw[KI]at Q xe cr xh;rw[show EA 1099511627776 (Clm.kind ⟨kind,P.map Em,n,d,r,o,l,s,b⟩) _ _=u from R]at Q;rw[show EA 1099511627776 (Clm.kind ⟨g,w.map Em,e,a,O,k,X,c,x⟩) _ _=J from xd]at xe;rw[show Gp 1099511627776 (Clm.kind ⟨kind,P.map Em,n,d,r,o,l,s,b⟩) _ _ _=v from F]at cr;rw[show Gp 1099511627776 (Clm.kind ⟨g,w.map Em,e,a,O,k,X,c,x⟩) _ _ _=S from p]at xh;have xk:=PH u.1 u.2 J.1 J.2;have xl:=PH v.1 v.2 S.1 S.2;clear R xd F p;refine Ab Tryz.func72 λM=>?_;rw[Tryz.ntmps72];apply Y1;refine Bx ?_;refine Bx ?_;refine Wa<|Y0 ?_;refine Cb 0 2 rfl rfl rfl ?_;refine Cb 1 3 rfl rfl rfl ?_;apply Y1;refine Wq Aw ?_;refine Wq Az ?_;refine Wq Aw ?_;refine Wq Az ?_;refine Wq (BC (Z)) ?_;refine Wa<|Y0 ?_;refine AWp.cutB 0 (λ_:Unit=>⟨[(2,.d (Et 34 (IV kind P n d r o l s b))),(3,.d (Et 34 (IV g w e a O k X c x))),(4,.d (ex (.bool false))),(5,.d (ex (.bool (Fa P w))))],[.dead,.dead]⟩) (λ_=>Ve (Fa P w) kind g n e d a r O s c=false) ?_ ?_;refine AWp.block<|Y1 ?_;refine Wq Aw ?_;refine Wq Az ?_;refine Wq BP ?_;refine Wm ?_;refine IY (λV=>Aw) ?_;refine DW 16 rfl (λV=>Az) ?_;refine DW 17 rfl (λV=>BP) ?_;refine Wq Cg ?_;refine Wm ?_;refine IY (λV=>CS) ?_;refine Wq Cg ?_;refine Wa<|Y0 ?_
 .refine Dm (ao rfl) (λC=>?_) (λC=>?_)
  .refine Go ?_
   refine CutS.ret ?_;exact Aq (Ak (ResV.tmp rfl rfl) (Af (congrArg (λz=>ex (.bool z)) (by simp only[Ve,C,Bool.true_or,Bool.or_true]))))
  apply Aj;refine LQ (λt:Bool=>⟨[(2,.d (Et 34 (IV kind P n d r o l s b))),(3,.d (Et 34 (IV g w e a O k X c x))),(4,.d (ex (.bool false))),(5,.d (ex (.bool (Fa P w)))),(23,.d (ex (.bool t)))],[.dead,.dead]⟩) (λt=>t=sw4 kind g n e d a r O) ?_ ?_
  .by_cases B:kind=g
   .subst B
    by_cases m:kind=5
    .subst m
     exact Zbn
    by_cases I:kind=6
    .subst I
     exact Zbn
    refine Go ?_;refine CutS.normal false (by simp[sw4,m,I]) ?_;exact ZhX
   .refine Go ?_
    refine CutS.normal false (by simp[sw4,B]) ?_;exact ZhX
  rintro _ rfl
  skip
  refine Dm (ao rfl) (λG=>?_) (λG=>?_)
  .refine Go ?_
   refine CutS.ret ?_;exact Aq (Ak (ResV.tmp rfl rfl) (Af (congrArg (λz=>ex (.bool z)) (by simp only[Ve,G,Bool.true_or,Bool.or_true]))))
  apply Aj;refine LQ (λt:Bool=>⟨[(2,.d (Et 34 (IV kind P n d r o l s b))),(3,.d (Et 34 (IV g w e a O k X c x))),(4,.d (ex (.bool false))),(5,.d (ex (.bool (Fa P w)))),(60,.d (ex (.bool t)))],[.dead,.dead]⟩) (λt=>t=sw6 (Fa P w) kind g s c) ?_ ?_
  .by_cases f:kind=8
   .subst f
    by_cases xm:g=8
    .subst xm
     obtain⟨q,K⟩:∃q,Fa P w=q:=⟨_,rfl⟩;rw[K];cases q
     .refine Dy 38 ?_
      refine ZeO ?_;refine CutS.normal false (by simp[sw6]) ?_;exact ZhX
     .by_cases m1:((GC s (-1):Nat):Int)=((GC c (-1):Nat):Int)
      .by_cases m2:((GC s 0:Nat):Int)=((GC c 0:Nat):Int)
       .by_cases m3:((GC s 1:Nat):Int)=((GC c 1:Nat):Int)
        .refine Dy 38 ?_
         refine ZeO ?_;refine CutS.normal false (by simp[sw6,Rg,m1,m2,m3]) ?_;exact ZhX
        .refine Dy 38 ?_
         refine ZeO ?_;refine CutS.normal true (by simp[sw6,Rg,m1,m2,m3]) ?_;exact ZhX
       .refine Dy 38 ?_
        refine ZeO ?_;refine CutS.normal true (by simp[sw6,Rg,m1,m2]) ?_;exact ZhX
      .refine Dy 38 ?_
       refine ZeO ?_;refine CutS.normal true (by simp[sw6,Rg,m1]) ?_;exact ZhX
    .refine Dy 38 ?_
     refine ZeO ?_;refine CutS.normal false (by simp[sw6,xm]) ?_;exact ZhX
   .refine Dy 38 ?_
    refine ZeO ?_;refine CutS.normal false (by simp[sw6,f]) ?_;exact ZhX
  rintro _ rfl
  skip
  refine Dm (ao rfl) (λU=>?_) (λU=>?_)
  .refine Go ?_
   refine CutS.ret ?_;exact Aq (Ak (ResV.tmp rfl rfl) (Af (congrArg (λz=>ex (.bool z)) (by simp only[Ve,U,Bool.true_or,Bool.or_true]))))
  refine Go ?_;refine IY (λV=>Aw) ?_;refine DW 104 rfl (λV=>Az) ?_;refine DW 105 rfl (λV=>BP) ?_;refine Go ?_;refine IY (λV=>CS) ?_;refine Go ?_;refine IY (λV=>Aw) ?_;refine DW 112 rfl (λV=>Az) ?_;refine DW 113 rfl (λV=>BC (b1)) ?_;refine DW 114 rfl (λV=>BP) ?_;refine Go ?_;refine Dm (ao rfl) (λj=>?_) (λj=>?_)
  .refine Go ?_
   refine CutS.ret ?_;exact Aq (Ak (ResV.tmp rfl rfl) (Af (congrArg (λz=>ex (.bool z)) (by simp only[Ve,j,Bool.true_or,Bool.or_true]))))
  refine Go ?_;refine CutS.normal () (by simp only[Ve,C,G,U,j,Bool.or_false]) ?_;exact Ac Zcc ZbH
 .rintro-xj
  rw[xj];apply Aj;apply Aj;refine LQ (λt:Bool=>⟨[(2,.d (Et 34 (IV kind P n d r o l s b))),(3,.d (Et 34 (IV g w e a O k X c x))),(4,.d (ex (.bool false))),(5,.d (ex (.bool (Fa P w)))),(137,.d (ex (.bool t)))],[.dead,.dead]⟩) (λt=>t=rgP kind u J v S) ?_ ?_
  .obtain ⟨z,L⟩:∃z,(decide (u.2<J.1)||decide (J.2<u.1))=z:=⟨_,rfl⟩
   obtain⟨y,N⟩:∃y,(decide (v.2<S.1)||decide (S.2<v.1))=y:=⟨_,rfl⟩;rw[L]at xk;rw[N]at xl;cases z
   .cases y
    .refine Dy 21 ?_
     have xb:=xe;have xa:=xh;refine CY ?_;refine⟨_,AN rfl rfl (My (ah rfl) (Aa rfl) rfl (Aa rfl) rfl ZcV),?_⟩;have xc:=xe;refine CY ?_;refine⟨_,AN rfl rfl (My (ah rfl) (Aa rfl) rfl (Aa rfl) rfl ZcV),?_⟩;refine CY ?_;apply AWl.nil;refine CutS.normal (decide (v.1>J.2)) (by simp only[rgP,L,N,Bool.false_or]) ?_;exact ZhX
    .refine Dy 21 ?_
     have xf:=xe;have xg:=xh;refine CY ?_;apply AWl.nil;refine CutS.normal true (by simp only[rgP,L,N,Bool.true_or,Bool.or_true]) ?_;exact ZhX
   .refine Dy 21 ?_
    have xi:=xe;refine CY ?_;apply AWl.nil;refine CutS.normal true (by simp only[rgP,L,Bool.true_or]) ?_;exact ZhX
  rintro _ rfl
  skip
  refine Dm (ao rfl) (λq=>?_) (λq=>?_)
  .refine Go ?_
   exact ZhY
  .refine Go ?_;refine IY (λV=>BO) ?_;refine DW 142 rfl (λV=>BC (xe)) ?_;refine DW 143 rfl (λV=>My (by first | exact ao rfl | exact rfl) (Aa rfl) rfl (Aa rfl) rfl ZcV) ?_;refine DW 144 rfl (λV=>BP) ?_;refine Go ?_
   exact ZhY
section
variable {kind kind':Int} {P P':List Tm} {n n' d d' r r':Int} {o o':List (Nat->Int)} {l l':List (List RTm)} {s s':List Int} {b b':List (Nat->RQ×RQ)} {x y:Bool}
theorem Ke(u:Abs Tryz.prog 71 [AL (IV kind P n d r o l s b),AL (IV kind' P' n' d' r' o' l' s' b')] (ex (.bool x)))(A:Abs Tryz.prog 71 [AL (IV kind' P' n' d' r' o' l' s' b'),AL (IV kind P n d r o l s b)] (ex (.bool y))) :
  Abs Tryz.prog 29 [AL (IV kind P n d r o l s b),AL (IV kind' P' n' d' r' o' l' s' b')] (ex (.bool (x||y))):=by
 refine Ab Tryz.func29 λB=>?_;rw[Tryz.ntmps29];apply Y1;refine Bx ?_;refine Bx ?_;refine Wa<|Y0 ?_;refine Cb 0 2 rfl rfl rfl ?_;refine Cb 1 3 rfl rfl rfl ?_;apply Y1;refine Wq BO ?_;refine Wq BO ?_;refine Wq (BC (u)) ?_;refine Wm ?_;refine Te (λW=>BO) ?_;refine Te (λW=>BO) ?_;refine Wv2 9 rfl 10 rfl (λW=>BC (A)) ?_;refine Wq Im ?_;refine Wa<|Y0<|BG ?_
 exact Yf
theorem Wo(u:Abs Tryz.prog 72 [AL (IV kind P n d r o l s b),AL (IV kind' P' n' d' r' o' l' s' b')] (ex (.bool x)))(A:Abs Tryz.prog 72 [AL (IV kind' P' n' d' r' o' l' s' b'),AL (IV kind P n d r o l s b)] (ex (.bool y))) :
  Abs Tryz.prog 30 [AL (IV kind P n d r o l s b),AL (IV kind' P' n' d' r' o' l' s' b')] (ex (.bool (x||y))):=by
 refine Ab Tryz.func30 λB=>?_;rw[Tryz.ntmps30];apply Y1;refine Bx ?_;refine Bx ?_;refine Wa<|Y0 ?_;refine Cb 0 2 rfl rfl rfl ?_;refine Cb 1 3 rfl rfl rfl ?_;apply Y1;refine Wq BO ?_;refine Wq BO ?_;refine Wq (BC (u)) ?_;refine Wm ?_;refine Te (λW=>BO) ?_;refine Te (λW=>BO) ?_;refine Wv2 9 rfl 10 rfl (λW=>BC (A)) ?_;refine Wq Im ?_;refine Wa<|Y0<|BG ?_
 exact Yf
end
def pQ(Q:List (List Tm))(i n:Nat):List (List Tm):=(List.range n).map λj=>if Q.length=0 then[]else Q.getD ((i+j)%Q.length) default
def pC(L:List (Nat×List (Nat->Int))):List Tm:=if(Ho L).length=0 then[]else(Ho L).getD (2%(Ho L).length) default
def rQ(Q:List (List Tm)):List (List RTm):=Q.map λP=>P.map Em
noncomputable def Dq (W:Nat) (L:List (Nat×List (Nat->Int))) (V:List Int):Clm:=
 if W%13=0\/W%13=1\/W%13=9 then⟨1+((W%13:Nat):Int),(pC L).map Em,0,0,0,[],[],[],[]⟩
 else if W%13=3 then⟨4,[],0,0,0,IT (Bw V 2%256).toNat,rQ (pQ (Ho L) 1 (Bw V 1%8%4).toNat),[],[]⟩
 else if W%13=4 then⟨5,[],Bw V 3%16,Bw V 1%8%4-1,0,[],[],[],[]⟩
 else if W%13=5 then⟨6,[],Bw V 1%8,Bw V 1%8-Bw V 1%8/3,Bw V 1%8/2,[],[],[],[]⟩
 else if W%13=6 then⟨7,[],0,0,0,[],[],[],(List.range (Bw V 1%8%4).toNat).map (Mq V)⟩
 else if W%13=7 then⟨8,(pC L).map Em,0,0,0,[],[],(List.range (Bw V 1%8%4).toNat).map (λi=>(Bw V i%128)%3-1),(List.range (Bw V 1%8%4).toNat).map (Mq V)⟩
 else if W%13=10 then⟨11,[],0,0,0,[],rQ (pQ (Ho L) 1 (Bw V 1%8%4).toNat),[],[]⟩
 else if W%13=11\/W%13=12 then⟨1+((W%13:Nat):Int),[],Bw V 1%8,0,0,[],[],[],[]⟩
 else⟨1+((W%13:Nat):Int),[],0,0,0,[],[],[],[]⟩
theorem A3X(a:Int):IntKind.u8.wrap a=(((a%256).toNat:Nat):Int):=by
 exact Zfj
theorem FJ(kind:Int)(P:List Tm)(n d r:Int)(o:List (Nat->Int))(Q:List (List Tm))(s:List Int)(b:List (Nat->RQ×RQ)):Ef ⟨kind,P.map Em,n,d,r,o,rQ Q,s,b⟩=[ex (.int .i64 kind),Cd P,ex (.int .i64 n),ex (.int .i64 d),ex (.int .i64 r),EZ o,KA Q,Kh s,Gf b]:=by
 rw[KI,XB];rfl
abbrev YF(T u:Nat)(W:Nat)(L:List (Nat×List (Nat->Int)))(V:List Int):List D:=[ex (.int .u8 (W:Nat)),rwD T L,i8D u V]
theorem PQ(T C:Nat)(W:Nat)(F:W<256)(y:W%13≠6)(e:W%13≠7)(L:List (Nat×List (Nat->Int)))(O:Rw8 L)(V:List Int)(f:I8 V)(A:V.length<=9223372036854775807):Abs Tryz.prog 24 [AL (YF T C W L V)] (AL (Ef (Dq W L V))):=by
 have w:=PR T L O
 have z:(Ho L).length<=6:=by
  show(LY L _).length<=6;simp[LY];omega
 have S:Abs Tryz.prog 62 [KA (Ho L),ex (.int .i64 (2:Nat)),ex (.int .i64 (1:Nat))] (KA [pC L]):=Jh (Ho L) 2 1 ZbA ZbA Zbx;have h:=FX C V f 1 ZbA A;have u:=Fm f 1;by_cases H:W%13=3
 .rw [show Dq W L V=⟨4, ([]:List Tm).map Em, 0, 0, 0, IT (Bw V 2%256).toNat, rQ (pQ (Ho L) 1 (Bw V 1%8%4).toNat), [], []⟩ from by simp [Dq, rQ, H]]
  rw[FJ];refine Ab Tryz.func24 λB=>?_;rw[Tryz.ntmps24];refine Go ?_;refine Dy 9 ?_;refine CY ?_;refine⟨_,HStep.q rfl (DO 3 rfl rfl Zbx),?_⟩;refine CY ?_;have b:=FX C V f 2 ZbA A;have Z:=ZF (Bw V 2%256).toNat Zbx;have x:=Jh (Ho L) 1 (Bw V 1%8%4).toNat ZbA Zbx Zbx;refine Wa<|Y0<|Aj<|Y1 ?_;refine Wq AH ?_;refine Wq AM ?_;refine Y0<|AWp.block<|Aj<|Y1 ?_;refine Wq AR ?_;refine Wa<|Y0<|Cf<|Y1 ?_;refine Wq AR ?_;refine Wa<|Y0<|Cf<|AWp.region ?_;refine Wq AR ?_;refine Wa<|Y0<|Cf<|Y1 ?_;refine Wq AZ ?_;refine Wa<|Y0<|Ct<|AWp.region ?_;refine Wq AH ?_;refine Wq AM ?_;refine Wq (BC (b)) ?_;refine Wq (AD (r:=(((Bw V 2%256).toNat:Nat):Int)) (ao rfl) (Aa rfl) (Aa rfl) (A3X _)) ?_;refine Wq (BC (Z)) ?_;refine Wm<|Wm ?_;refine Wq (HG (r:=(((Bw V 1%8%4).toNat:Nat):Int)) (ao rfl) (ao rfl) ((Gg (Bw V 1%((2^3:Nat):Int)) (j:=2) Zbx).trans Zbx)) ?_;refine Wq (BC (x)) ?_;refine Wq AH ?_;refine JF (ao rfl) (ao rfl) rfl (Aa rfl) Zcg rfl rfl ?_;refine Wq AH ?_;refine JF (ao rfl) (ao rfl) rfl (Aa rfl) Zcg rfl rfl ?_;refine AWl.nil<|BE<|Yn<|Y1 ?_;refine Wq Bg ?_;refine Sf ?_;refine Y0<|BG ?_
  exact Aq (Ak (ResV.cell rfl rfl (Aa rfl) rfl rfl rfl) (Cz ZbE))
 by_cases G:W%13=10
 .rw [show Dq W L V=⟨11, ([]:List Tm).map Em, 0, 0, 0, [], rQ (pQ (Ho L) 1 (Bw V 1%8%4).toNat), [], []⟩ from by simp [Dq, rQ, G]]
  rw[FJ];refine Ab Tryz.func24 λB=>?_;refine Zfp ?_;refine CY ?_;have x:=Jh (Ho L) 1 (Bw V 1%8%4).toNat ZbA Zbx Zbx;refine Go ?_;refine Wq (HG (r:=(((Bw V 1%8%4).toNat:Nat):Int)) (ao rfl) (ao rfl) ((Gg (Bw V 1%((2^3:Nat):Int)) (j:=2) Zbx).trans Zbx)) ?_;exact ZeC
 by_cases n:W%13=4
 .rw [show Dq W L V=⟨5, ([]:List Tm).map Em, Bw V 3%16, Bw V 1%8%4-1, 0, [], rQ [], [], []⟩ from by simp [Dq, rQ, n]]
  rw[FJ];refine Ab Tryz.func24 λB=>?_;refine Zfp ?_;refine CY ?_;have b:=FX C V f 3 ZbA A;refine Go ?_;refine Wq (DO 2 rfl rfl Zbx) ?_;refine Go ?_;refine Wq (DO 4 rfl rfl Zbx) ?_;exact ZeC
 by_cases s:W%13=5
 .rw [show Dq W L V=⟨6, ([]:List Tm).map Em, Bw V 1%8, Bw V 1%8-Bw V 1%8/3, Bw V 1%8/2, [], rQ [], [], []⟩ from by simp [Dq, rQ, s]]
  exact ZgD
 by_cases q:W%13=0
 .rw [show Dq W L V=⟨1, (pC L).map Em, 0, 0, 0, [], rQ [], [], []⟩ from by simp [Dq, rQ, q]]
  exact ZgD
 by_cases E:W%13=1
 .rw [show Dq W L V=⟨2, (pC L).map Em, 0, 0, 0, [], rQ [], [], []⟩ from by simp [Dq, rQ, E]]
  exact ZgD
 by_cases l:W%13=9
 .rw [show Dq W L V=⟨10, (pC L).map Em, 0, 0, 0, [], rQ [], [], []⟩ from by simp [Dq, rQ, l]]
  exact ZgD
 by_cases g:W%13=2
 .rw [show Dq W L V=⟨3, ([]:List Tm).map Em, 0, 0, 0, [], rQ [], [], []⟩ from by simp [Dq, rQ, g]]
  exact ZgD
 by_cases i:W%13=8
 .rw [show Dq W L V=⟨9, ([]:List Tm).map Em, 0, 0, 0, [], rQ [], [], []⟩ from by simp [Dq, rQ, i]]
  exact ZgD
 by_cases j:W%13=11
 .rw [show Dq W L V=⟨12, ([]:List Tm).map Em, Bw V 1%8, 0, 0, [], rQ [], [], []⟩ from by simp [Dq, rQ, j]]
  exact ZgD
 by_cases m:W%13=12
 .rw [show Dq W L V=⟨13, ([]:List Tm).map Em, Bw V 1%8, 0, 0, [], rQ [], [], []⟩ from by simp [Dq, rQ, m]]
  exact ZgD
 omega
def orD(x y:D):D:=⟨λs v=>x.rel s v\/y.rel s v,λh G=>h.elim (λh=>.inl (x.st h G)) λh=>.inr (y.st h G)⟩
theorem A21(h:D.le r vu):D.le r (orD vu ux):=λs v o=>.inl (h s v o)
theorem A20(h:D.le r ux):D.le r (orD vu ux):=λs v o=>.inr (h s v o)
abbrev Qo(V:List Int)(k:Nat):List (Nat->RQ×RQ):=(List.range k).map (Mq V)
theorem Ut(V:List Int)(k:Nat):(Qo V (k+1)).map DB=(Qo V k).map DB++[DB (Mq V k)]:=by simp[Qo,List.range_succ]
abbrev sgK(V:List Int)(k:Nat):List Int:=(List.range k).map λi=>(Bw V i%128)%3-1
abbrev sgR(V:List Int)(k:Nat):List (List D):=(sgK V k).map λz=>[ex (.int .i64 z)]
theorem A0m(V:List Int)(k:Nat):sgR V (k+1)=sgR V k++[[ex (.int .i64 ((Bw V k%128)%3-1))]]:=by simp[sgR,sgK,List.range_succ]
theorem Qu(T F:Nat)(W:Nat)(q:W<256)(L:List (Nat×List (Nat->Int)))(O:Rw8 L)(V:List Int)(G:I8 V)(A:V.length<=9223372036854775807)(K:W%13=6):Abs Tryz.prog 24 [AL (YF T F W L V)] (AL (Ef (Dq W L V))):=by
 have w:=PR T L O
 have z:(Ho L).length<=6:=by
  show(LY L _).length<=6;simp[LY];omega
 have S:Abs Tryz.prog 62 [KA (Ho L),ex (.int .i64 (2:Nat)),ex (.int .i64 (1:Nat))] (KA [pC L]):=Jh (Ho L) 2 1 ZbA ZbA Zbx;have h:=FX F V G 1 ZbA A;have u:=Fm G 1;obtain⟨N,Y⟩:∃N,N=(Bw V 1%8%4).toNat:=⟨_,rfl⟩;rw[show Dq W L V=⟨7,([]:List Tm).map Em,0,0,0,[],rQ [],[],Qo V N⟩from by simp[Dq,rQ,K,Qo,sgK,Y]];rw[FJ];refine Ab Tryz.func24 λC=>?_;refine Zfp ?_;refine ZeO ?_;rw[show(1+(W:Int)%13)=7 by omega];refine KO 131 64 ZbA ZbA rfl ?_;refine AE (λE f=>∃k v,k<=N/\E=N-k/\f=⟨[(1,.ptr 0 0),(2,.ptr 1 0),(4,.ptr 2 0),(5,.d (Cd (pC L))),(6,.d (ex (.int .i64 (Bw V 1%((2^3:Nat):Int))))),(7,.d (ex (.int .i64 (k:Nat))))],[.var 58 ((YF T F W L V).map .d),.var 34 (([ex (.int .i64 0),ex (.slice none 0 0),ex (.int .i64 0),ex (.int .i64 0),ex (.int .i64 0),ex (.slice none 0 0),ex (.slice none 0 0),ex (.slice none 0 0),ex (.slice none 0 0)]:List D).map .d),.var 34 (([ex (.int .i64 7),ex (.slice none 0 0),ex (.int .i64 0),ex (.int .i64 0),ex (.int .i64 0),ex (.slice none 0 0),ex (.slice none 0 0),ex (.slice none 0 0),ex v]:List D).map .d),.obj (Qr v 131 64 ((Qo V k).map DB))]⟩) ?le ⟨0,.slice none 0 0,by omega,rfl,rfl⟩ ?round
 case le=>exact Ac Zdj (by exact Yv<|Yv<|Yv<|HpLe.cons (OwLe.obj rfl)<|HpLe.nil)
 case round=>
  rintro E _ ⟨k,v,B,rfl,rfl⟩;by_cases Q:k<N
  .have I:=UH F V G A k Zbx
   refine Go ?_;refine Wq (HG (r:=((N:Nat):Int)) (ao rfl) (ao rfl) ((Gg (Bw V 1%((2^3:Nat):Int)) (j:=2) Zbx).trans Zbx)) ?_;refine Go ?_;refine IR 3 (.obj (Qr v 131 64 ((Qo V k).map DB))) (.row 131 64 ((Qo V k).map DB++[DB (Mq V k)])) 7 9 [8,7,6,5,4,3,2,1,0] [] [.ptr 2 8,.d (ex v),.ptr 0 2,.d (i8D F V),.d (ex (.int .i64 (k:Nat))),.d (AL (DB (Mq V k))),.d (slD 131 64 [DB (Mq V k)]),.own 3,.ptr 2 8] [[],[(78,0)],[],[(80,2)],[],[(81,3),(82,4)],[(83,5)],[(79,1),(84,6)],[]] [(1,.ptr 0 0),(2,.ptr 1 0),(4,.ptr 2 0),(5,.d (Cd (pC L))),(6,.d (ex (.int .i64 (Bw V 1%((2^3:Nat):Int))))),(7,.d (ex (.int .i64 (k:Nat))))] [(85,.own 3),(86,.ptr 2 8),(1,.ptr 0 0),(2,.ptr 1 0),(4,.ptr 2 0),(5,.d (Cd (pC L))),(6,.d (ex (.int .i64 (Bw V 1%((2^3:Nat):Int))))),(7,.d (ex (.int .i64 (k:Nat))))] Zbz rfl ⟨rfl,rfl,rfl,rfl,rfl,rfl,trivial⟩ rfl rfl Zbz Zbz Zbz (by refine DSteps.q rfl Zbv ?_;refine DSteps.q rfl Zbv ?_;refine DSteps.q rfl Zbv ?_;refine DSteps.q rfl Zbv ?_;refine DSteps.q rfl Zbv ?_;refine DSteps.q rfl (λ_=>EL (ah rfl) I (ArgsLe.cons rfl (D.le.refl _) (ArgsLe.cons rfl (D.le.refl _) ArgsLe.nil))) ?_;refine DSteps.q rfl (λ_=>CF (ah rfl) (Aa rfl) (Aa rfl) rfl rfl rfl rfl rfl) ?_;refine DSteps.k rfl (DTurn.rows rfl rfl rfl (Aa rfl) (Aa rfl) rfl rfl rfl rfl ZgC ZgC) ?_;refine DSteps.q rfl Zbv ?_;exact DSteps.nil) Zbz Zbz ⟨rfl,rfl,rfl,rfl,rfl,rfl,rfl,rfl,trivial⟩ [.var 58 ((YF T F W L V).map .d),.var 34 (([ex (.int .i64 0),ex (.slice none 0 0),ex (.int .i64 0),ex (.int .i64 0),ex (.int .i64 0),ex (.slice none 0 0),ex (.slice none 0 0),ex (.slice none 0 0),ex (.slice none 0 0)]:List D).map .d),.var 34 (([ex (.int .i64 7),ex (.slice none 0 0),ex (.int .i64 0),ex (.int .i64 0),ex (.int .i64 0),ex (.slice none 0 0),ex (.slice none 0 0),ex (.slice none 0 0),ex v]:List D).map .d),.row 131 64 ((Qo V k).map DB++[DB (Mq V k)])] rfl ?_;refine Fr (ao rfl) (ao rfl) rfl (Aa rfl) (One.own rfl) rfl rfl ?_;apply Y0;(refine MG 3 131 64 ((Qo V (k+1)).map DB) (by rw[Ut];rfl) λR=>?_);apply Y1;refine Wq AH ?_;refine Wq BN ?_;refine Wq AR ?_;refine Y0<|Cf<|Gm<|BE<|Yn<|AWp.region<|Wm ?_;refine Wq Eb ?_;refine Wa<|AWl.nil ?_
   skip
   refine Am (N-(k+1)) Zbx ⟨k+1,R,by omega,rfl,rfl⟩ ?_;exact Ac Zdj (by exact HpLe.cons (Ad rfl)<|HpLe.cons (Ad rfl)<|HpLe.cons (Ad rfl)<|HpLe.cons (OwLe.obj rfl)<|HpLe.nil)
  .obtain rfl:k=N:=by omega
   refine Hm (σ':=⟨[(1,.ptr 0 0),(2,.ptr 1 0),(4,.ptr 2 0),(5,.d (Cd (pC L))),(6,.d (ex (.int .i64 (Bw V 1%((2^3:Nat):Int))))),(7,.d (ex (.int .i64 (k:Nat))))],[.var 58 ((YF T F W L V).map .d),.var 34 (([ex (.int .i64 0),ex (.slice none 0 0),ex (.int .i64 0),ex (.int .i64 0),ex (.int .i64 0),ex (.slice none 0 0),ex (.slice none 0 0),ex (.slice none 0 0),ex (.slice none 0 0)]:List D).map .d),.var 34 (([ex (.int .i64 7),ex (.slice none 0 0),ex (.int .i64 0),ex (.int .i64 0),ex (.int .i64 0),ex (.slice none 0 0),ex (.slice none 0 0),ex (.slice none 0 0),Gf (Qo V k)]:List D).map .d),.dead]⟩) ?wk ?_
   case wk=>exact Ac ZcO (HpLe.cons (OwLe.varD rfl) (HpLe.cons (OwLe.varD rfl) (HpLe.cons (OwLe.cells (CellsLe.cons (AVle.d rfl) (CellsLe.cons (AVle.d rfl) (CellsLe.cons (AVle.d rfl) (CellsLe.cons (AVle.d rfl) (CellsLe.cons (AVle.d rfl) (CellsLe.cons (AVle.d rfl) (CellsLe.cons (AVle.d rfl) (CellsLe.cons (AVle.d rfl) (CellsLe.cons (AVle.rows (id:=3) rfl) CellsLe.nil)))))))))) (HpLe.cons OwLe.dead HpLe.nil))))
   refine Go ?_;exact Zfv
theorem Qt(T G:Nat)(W:Nat)(q:W<256)(L:List (Nat×List (Nat->Int)))(O:Rw8 L)(V:List Int)(I:I8 V)(C:V.length<=9223372036854775807)(X:W%13=7):Abs Tryz.prog 24 [AL (YF T G W L V)] (AL (Ef (Dq W L V))):=by
 have w:=PR T L O
 have z:(Ho L).length<=6:=by
  show(LY L _).length<=6;simp[LY];omega
 have S:Abs Tryz.prog 62 [KA (Ho L),ex (.int .i64 (2:Nat)),ex (.int .i64 (1:Nat))] (KA [pC L]):=Jh (Ho L) 2 1 ZbA ZbA Zbx;have h:=FX G V I 1 ZbA C;have A:=Fm I 1;obtain⟨N,Y⟩:∃N,N=(Bw V 1%8%4).toNat:=⟨_,rfl⟩;rw[show Dq W L V=⟨8,(pC L).map Em,0,0,0,[],rQ [],sgK V N,Qo V N⟩from by simp[Dq,rQ,X,Qo,sgK,Y]];rw[FJ];refine Ab Tryz.func24 λE=>?_;refine Zfp ?_;refine ZeO ?_;rw[show(1+(W:Int)%13)=8 by omega];refine KO 131 64 ZbA ZbA rfl ?_;refine KO 3 1 ZbA ZbA rfl ?_;refine AE (λF f=>∃k v u,k<=N/\F=N-k/\f=⟨[(1,.ptr 0 0),(2,.ptr 1 0),(4,.ptr 2 0),(5,.d (Cd (pC L))),(6,.d (ex (.int .i64 (Bw V 1%((2^3:Nat):Int))))),(7,.d (ex (.int .i64 (k:Nat))))],[.var 58 ((YF T G W L V).map .d),.var 34 (([ex (.int .i64 0),ex (.slice none 0 0),ex (.int .i64 0),ex (.int .i64 0),ex (.int .i64 0),ex (.slice none 0 0),ex (.slice none 0 0),ex (.slice none 0 0),ex (.slice none 0 0)]:List D).map .d),.var 34 (([ex (.int .i64 8),orD (ex (.slice none 0 0)) (Cd (pC L)),ex (.int .i64 0),ex (.int .i64 0),ex (.int .i64 0),ex (.slice none 0 0),ex (.slice none 0 0),ex u,ex v]:List D).map .d),.obj (Qr v 131 64 ((Qo V k).map DB)),.obj (Qr u 3 1 (sgR V k))]⟩) ?le ⟨0,.slice none 0 0,.slice none 0 0,by omega,rfl,rfl⟩ ?round
 case le=>exact Ac ZcO (HpLe.cons (OwLe.varD rfl) (HpLe.cons (OwLe.varD rfl) (HpLe.cons (OwLe.cells (CellsLe.cons (AVle.d rfl) (CellsLe.cons (AVle.le (A21 (D.le.refl _))) (CellsLe.cons (AVle.d rfl) (CellsLe.cons (AVle.d rfl) (CellsLe.cons (AVle.d rfl) (CellsLe.cons (AVle.d rfl) (CellsLe.cons (AVle.d rfl) (CellsLe.cons (AVle.d rfl) (CellsLe.cons (AVle.d rfl) CellsLe.nil)))))))))) (HpLe.cons (OwLe.obj rfl) (HpLe.cons (OwLe.obj rfl) HpLe.nil)))))
 case round=>
  rintro F _ ⟨k,v,u,B,rfl,rfl⟩;by_cases Q:k<N
  .have K:=UH G V I C k Zbx
   have j:=FX G V I k Zbx C;have a:=Fm I k;refine Go ?_;refine Wq (HG (r:=((N:Nat):Int)) (ao rfl) (ao rfl) ((Gg (Bw V 1%((2^3:Nat):Int)) (j:=2) Zbx).trans Zbx)) ?_;refine Go ?_;refine IR 3 (.obj (Qr v 131 64 ((Qo V k).map DB))) (.row 131 64 ((Qo V k).map DB++[DB (Mq V k)])) 7 9 [8,7,6,5,4,3,2,1,0] [] [.ptr 2 8,.d (ex v),.ptr 0 2,.d (i8D G V),.d (ex (.int .i64 (k:Nat))),.d (AL (DB (Mq V k))),.d (slD 131 64 [DB (Mq V k)]),.own 3,.ptr 2 8] [[],[(78,0)],[],[(80,2)],[],[(81,3),(82,4)],[(83,5)],[(79,1),(84,6)],[]] [(1,.ptr 0 0),(2,.ptr 1 0),(4,.ptr 2 0),(5,.d (Cd (pC L))),(6,.d (ex (.int .i64 (Bw V 1%((2^3:Nat):Int))))),(7,.d (ex (.int .i64 (k:Nat))))] [(85,.own 3),(86,.ptr 2 8),(1,.ptr 0 0),(2,.ptr 1 0),(4,.ptr 2 0),(5,.d (Cd (pC L))),(6,.d (ex (.int .i64 (Bw V 1%((2^3:Nat):Int))))),(7,.d (ex (.int .i64 (k:Nat))))] Zbz rfl ⟨rfl,rfl,rfl,rfl,rfl,rfl,trivial⟩ rfl rfl Zbz Zbz Zbz (by refine DSteps.q rfl Zbv ?_;refine DSteps.q rfl Zbv ?_;refine DSteps.q rfl Zbv ?_;refine DSteps.q rfl Zbv ?_;refine DSteps.q rfl Zbv ?_;refine DSteps.q rfl (λ_=>EL (ah rfl) K (ArgsLe.cons rfl (D.le.refl _) (ArgsLe.cons rfl (D.le.refl _) ArgsLe.nil))) ?_;refine DSteps.q rfl (λ_=>CF (ah rfl) (Aa rfl) (Aa rfl) rfl rfl rfl rfl rfl) ?_;refine DSteps.k rfl (DTurn.rows rfl rfl rfl (Aa rfl) (Aa rfl) rfl rfl rfl rfl ZgC ZgC) ?_;refine DSteps.q rfl Zbv ?_;exact DSteps.nil) Zbz Zbz ⟨rfl,rfl,rfl,rfl,rfl,rfl,rfl,rfl,trivial⟩ [.var 58 ((YF T G W L V).map .d),.var 34 (([ex (.int .i64 0),ex (.slice none 0 0),ex (.int .i64 0),ex (.int .i64 0),ex (.int .i64 0),ex (.slice none 0 0),ex (.slice none 0 0),ex (.slice none 0 0),ex (.slice none 0 0)]:List D).map .d),.var 34 (([ex (.int .i64 8),orD (ex (.slice none 0 0)) (Cd (pC L)),ex (.int .i64 0),ex (.int .i64 0),ex (.int .i64 0),ex (.slice none 0 0),ex (.slice none 0 0),ex u,ex v]:List D).map .d),.row 131 64 ((Qo V k).map DB++[DB (Mq V k)]),.obj (Qr u 3 1 (sgR V k))] rfl ?_;refine Fr (ao rfl) (ao rfl) rfl (Aa rfl) (One.own rfl) rfl rfl ?_;apply Y0;(refine MG 3 131 64 ((Qo V (k+1)).map DB) (by rw[Ut];rfl) λR=>?_);apply Y1;refine Wq AH ?_;refine Wq BN ?_;refine Wq AZ ?_;refine Y0<|Ct ?_
   refine Hm (σ':=⟨[(1,.ptr 0 0),(2,.ptr 1 0),(4,.ptr 2 0),(5,.d (Cd (pC L))),(6,.d (ex (.int .i64 (Bw V 1%((2^3:Nat):Int))))),(7,.d (ex (.int .i64 (k:Nat))))],[.var 58 ((YF T G W L V).map .d),.var 34 (([ex (.int .i64 0),ex (.slice none 0 0),ex (.int .i64 0),ex (.int .i64 0),ex (.int .i64 0),ex (.slice none 0 0),ex (.slice none 0 0),ex (.slice none 0 0),ex (.slice none 0 0)]:List D).map .d),.var 34 (([ex (.int .i64 8),orD (ex (.slice none 0 0)) (Cd (pC L)),ex (.int .i64 0),ex (.int .i64 0),ex (.int .i64 0),ex (.slice none 0 0),ex (.slice none 0 0),ex u,ex R]:List D).map .d),.obj (Qr R 131 64 ((Qo V (k+1)).map DB)),.obj (Qr u 3 1 (sgR V k))]⟩) ?wk2 ?_
   case wk2=>exact Ac Zdj (by exact HpLe.cons (Ad rfl)<|HpLe.cons (Ad rfl)<|HpLe.cons (Ad rfl)<|HpLe.cons (OwLe.obj rfl)<|HpLe.cons (OwLe.obj rfl)<|HpLe.nil)
   skip
   refine IR 4 (.obj (Qr u 3 1 (sgR V k))) (.row 3 1 (sgR V k++[[ex (.int .i64 ((Bw V k%128)%3-1))]])) 11 13 [12,11,10,9,8,7,6,5,4,3,2,1,0] [] [.d (Cd (pC L)),.ptr 2 7,.d (ex u),.ptr 0 2,.d (i8D G V),.d (ex (.int .i64 (k:Nat))),.d (ex (.int .i64 (Bw V k))),.d (ex (.int .i64 (Bw V k%128))),.d (ex (.int .i64 (Bw V k%128%3))),.d (ex (.int .i64 (Bw V k%128%3-1))),.d (slD 3 1 [[ex (.int .i64 ((Bw V k%128)%3-1))]]),.own 4,.ptr 2 1] [[],[],[(91,1)],[],[(93,3)],[],[(94,4),(95,5)],[(96,6)],[(97,7)],[(98,8)],[(99,9)],[(92,2),(100,10)],[]] [(1,.ptr 0 0),(2,.ptr 1 0),(4,.ptr 2 0),(5,.d (Cd (pC L))),(6,.d (ex (.int .i64 (Bw V 1%((2^3:Nat):Int))))),(7,.d (ex (.int .i64 (k:Nat))))] [(101,.own 4),(102,.ptr 2 1),(90,.d (Cd (pC L))),(1,.ptr 0 0),(2,.ptr 1 0),(4,.ptr 2 0),(5,.d (Cd (pC L))),(6,.d (ex (.int .i64 (Bw V 1%((2^3:Nat):Int))))),(7,.d (ex (.int .i64 (k:Nat))))] Zbz rfl ⟨rfl,rfl,rfl,rfl,rfl,rfl,trivial⟩ rfl rfl Zbz Zbz Zbz (by refine DSteps.q rfl Zbv ?_;refine DSteps.q rfl Zbv ?_;refine DSteps.q rfl Zbv ?_;refine DSteps.q rfl Zbv ?_;refine DSteps.q rfl Zbv ?_;refine DSteps.q rfl Zbv ?_;refine DSteps.q rfl (λ_=>EL (ah rfl) j (ArgsLe.cons rfl (D.le.refl _) (ArgsLe.cons rfl (D.le.refl _) ArgsLe.nil))) ?_;refine DSteps.q rfl (λ_=>HG (ah rfl) (ah rfl) ((Gg (Bw V k) (j:=7) Zbx).trans rfl)) ?_;refine DSteps.q rfl (λ_=>JX (ah rfl) (ah rfl) ZbA (by rw[Int.tmod_eq_emod_of_nonneg Zbx])) ?_;refine DSteps.q rfl (λ_=>Mu (ah rfl) (ah rfl) Zbx Zbx) ?_;refine DSteps.q rfl (λ_=>AI ZcI) ?_;refine DSteps.k rfl (DTurn.rows rfl rfl rfl (Aa rfl) (Aa rfl) rfl rfl rfl rfl ZgC ZgC) ?_;refine DSteps.q rfl Zbv ?_;exact DSteps.nil) Zbz Zbz ⟨rfl,rfl,rfl,rfl,rfl,rfl,rfl,rfl,rfl,trivial⟩ [.var 58 ((YF T G W L V).map .d),.var 34 (([ex (.int .i64 0),ex (.slice none 0 0),ex (.int .i64 0),ex (.int .i64 0),ex (.int .i64 0),ex (.slice none 0 0),ex (.slice none 0 0),ex (.slice none 0 0),ex (.slice none 0 0)]:List D).map .d),.var 34 (([ex (.int .i64 8),orD (ex (.slice none 0 0)) (Cd (pC L)),ex (.int .i64 0),ex (.int .i64 0),ex (.int .i64 0),ex (.slice none 0 0),ex (.slice none 0 0),ex u,ex R]:List D).map .d),.obj (Qr R 131 64 ((Qo V (k+1)).map DB)),.row 3 1 (sgR V k++[[ex (.int .i64 ((Bw V k%128)%3-1))]])] rfl ?_;refine JF (ao rfl) (ao rfl) rfl (Aa rfl) Zcg rfl rfl ?_;refine Wq AH ?_;refine Fr (ao rfl) (ao rfl) rfl (Aa rfl) (One.own rfl) rfl rfl ?_;refine AWl.nil<|BE<|Yn ?_;(refine MG 4 3 1 (sgR V (k+1)) (by rw[A0m];rfl) λM=>?_);refine AWp.region<|Wm ?_;refine Wq Eb ?_;refine Wa<|AWl.nil ?_
   skip
   refine Am (N-(k+1)) Zbx ⟨k+1,R,M,by omega,rfl,rfl⟩ ?_;exact Ac (by repeat (first | exact FrLe.nil | refine Yp ?_ | refine Yd ?_ | refine FrLe.cons rfl (AVle.int Zbx) ?_)) (HpLe.cons (Ad rfl) (HpLe.cons (Ad rfl) (HpLe.cons (OwLe.cells (CellsLe.cons (AVle.d rfl) (CellsLe.cons (AVle.le (A20 (D.le.refl _))) (CellsLe.cons (AVle.d rfl) (CellsLe.cons (AVle.d rfl) (CellsLe.cons (AVle.d rfl) (CellsLe.cons (AVle.d rfl) (CellsLe.cons (AVle.d rfl) (CellsLe.cons (AVle.d rfl) (CellsLe.cons (AVle.d rfl) CellsLe.nil)))))))))) (HpLe.cons (OwLe.obj rfl) (HpLe.cons (OwLe.obj rfl) HpLe.nil)))))
  .obtain rfl:k=N:=by omega
   refine Hm (σ':=⟨[(1,.ptr 0 0),(2,.ptr 1 0),(4,.ptr 2 0),(5,.d (Cd (pC L))),(6,.d (ex (.int .i64 (Bw V 1%((2^3:Nat):Int))))),(7,.d (ex (.int .i64 (k:Nat))))],[.var 58 ((YF T G W L V).map .d),.var 34 (([ex (.int .i64 0),ex (.slice none 0 0),ex (.int .i64 0),ex (.int .i64 0),ex (.int .i64 0),ex (.slice none 0 0),ex (.slice none 0 0),ex (.slice none 0 0),ex (.slice none 0 0)]:List D).map .d),.var 34 (([ex (.int .i64 8),orD (ex (.slice none 0 0)) (Cd (pC L)),ex (.int .i64 0),ex (.int .i64 0),ex (.int .i64 0),ex (.slice none 0 0),ex (.slice none 0 0),Kh (sgK V k),Gf (Qo V k)]:List D).map .d),.dead,.dead]⟩) ?wk ?_
   case wk=>exact Ac ZcO (HpLe.cons (OwLe.varD rfl) (HpLe.cons (OwLe.varD rfl) (HpLe.cons (OwLe.cells (CellsLe.cons (AVle.d rfl) (CellsLe.cons (AVle.d rfl) (CellsLe.cons (AVle.d rfl) (CellsLe.cons (AVle.d rfl) (CellsLe.cons (AVle.d rfl) (CellsLe.cons (AVle.d rfl) (CellsLe.cons (AVle.d rfl) (CellsLe.cons (AVle.rows (id:=4) rfl) (CellsLe.cons (AVle.rows (id:=3) rfl) CellsLe.nil)))))))))) (HpLe.cons OwLe.dead (HpLe.cons OwLe.dead HpLe.nil)))))
   refine Go ?_;exact Zfv
theorem Ku(T A:Nat)(W:Nat)(q:W<256)(L:List (Nat×List (Nat->Int)))(O:Rw8 L)(V:List Int)(f:I8 V)(u:V.length<=9223372036854775807):Abs Tryz.prog 24 [AL (YF T A W L V)] (AL (Ef (Dq W L V))):=by
 by_cases y:W%13=6
 .exact Qu T A W q L O V f u y
 by_cases e:W%13=7
 .exact Qt T A W q L O V f u e
 exact PQ T A W q y e L O V f u
theorem Ia(P Q:List Tm):decide (CC P Q=0)=Fa P Q:=by
 rw[Bool.eq_iff_iff,Ky];simp only[decide_eq_true_eq];exact Md
theorem Vu(P Q:List Tm):Fa P Q=Fa Q P:=by
 rw[<-Ia,<-Ia,TC P Q];simp
theorem A40(q:Bool)(kind Q n e d v r I:Int)(s c:List Int)(h:kind=5->r=0)(u:Q=5->I=0):LR q kind Q n e d v r I s c=Ve q kind Q n e d v r I s c:=by
 by_cases m:kind=5
 .have Y:=h m
  subst m;by_cases k:Q=5
  .have T:=u k
   subst k;rw[Bool.eq_iff_iff];simp[LR,Ve,sw4,sw6,Y,T];omega
  .rw [Bool.eq_iff_iff]
   simp[LR,Ve,sw4,sw6,k,Ne.symm k]
 .by_cases y:kind=6
  .subst y
   by_cases B:Q=6
   .subst B
    rw[Bool.eq_iff_iff];simp[LR,Ve,sw4,sw6]
   .rw [Bool.eq_iff_iff]
    simp[LR,Ve,sw4,sw6,B,Ne.symm B]
  .by_cases A:kind=8
   .subst A
    exact ZgU
   .by_cases V:kind=10
    .subst V
     exact ZgU
    .rw [Bool.eq_iff_iff]
     simp[LR,Ve,sw4,sw6,m,y,A,V]
theorem A3M{I J kind kind' n e d d':Int}(Z:1000000<=I)(F:1000000<=J)(h:0<=n/\n<=1000)(X:0<=e/\e<=1000):(EA I kind n d).2<(EA I kind' e d').1↔(EA J kind n d).2<(EA J kind' e d').1:=by
 unfold EA
 repeat' split
 all_goals first | omega | (dsimp only;omega)
theorem A3E{I J kind kind' n e r u m O:Int}(Z:1000000<=I)(F:1000000<=J)(h:0<=n/\n<=1000)(X:0<=e/\e<=1000)(Y:0<=r/\r<=1000)(T:0<=u/\u<=1000)(s:0<=m/\m<=1000)(L:0<=O/\O<=1000):(Gp I kind n r m).2<(Gp I kind' e u O).1↔(Gp J kind n r m).2<(Gp J kind' e u O).1:=by
 unfold Gp
 repeat' split
 all_goals first | omega | (dsimp only;omega)
theorem A5A{I J kind kind' n e r d' m:Int}(Z:1000000<=I)(F:1000000<=J)(h:0<=n/\n<=1000)(X:0<=e/\e<=1000)(Y:0<=r/\r<=1000)(s:0<=m/\m<=1000):(Gp I kind n r m).1>(EA I kind' e d').2↔(Gp J kind n r m).1>(EA J kind' e d').2:=by
 unfold Gp EA
 repeat' split
 all_goals first | omega | (dsimp only;omega)
theorem A6w{I J kind n d:Int}(Z:1000000<=I)(F:1000000<=J)(h:0<=n/\n<=1000):((EA I kind n d).1=0/\(EA I kind n d).2=0)↔(EA J kind n d).2=0:=by
 unfold EA
 repeat' split
 all_goals first | omega | (dsimp only;omega)
theorem A49{I J kind kind' n e d d' r u m O:Int}(Z:1000000<=I)(F:1000000<=J)(h:0<=n/\n<=1000)(X:0<=e/\e<=1000)(Y:0<=r/\r<=1000)(T:0<=u/\u<=1000)(s:0<=m/\m<=1000)(L:0<=O/\O<=1000):rgP kind (EA I kind n d) (EA I kind' e d') (Gp I kind n r m) (Gp I kind' e u O)=rgP kind (EA J kind n d) (EA J kind' e d') (Gp J kind n r m) (Gp J kind' e u O):=by
 unfold rgP;rw[decide_eq_decide.2 (A3M (kind:=kind) (kind':=kind') (d:=d) (d':=d') Z F h X),decide_eq_decide.2 (A3M (kind:=kind') (kind':=kind) (d:=d') (d':=d) Z F X h),decide_eq_decide.2 (A3E (kind:=kind) (kind':=kind') Z F h X Y T s L),decide_eq_decide.2 (A3E (kind:=kind') (kind':=kind) Z F X h T Y L s),decide_eq_decide.2 (A5A (kind:=kind) (kind':=kind') (d':=d') Z F h X Y s)]
theorem A2j(q:Bool)(kind n d r:Int)(s:List Int):LR q kind kind n n d d r r s s=false:=by
 have I:Rg s s=true:=by simp[Rg]
 unfold LR;rw[I];by_cases u:kind=1
 .subst u;simp
 .by_cases V:kind=10
  .subst V;simp
  .simp [u,V]
theorem A2s(Z:1000000<=a)(h:0<=vQ/\vQ<=1000)(Y:0<=ut/\ut<=vQ\/J≠6)(s:0<=uz/\uz<=1000):rgP J (EA a J vQ vR) (EA a J vQ vR) (Gp a J vQ ut uz) (Gp a J vQ ut uz)=false:=by
 unfold rgP EA Gp
 repeat' split
 all_goals (simp only[Bool.or_eq_false_iff,decide_eq_false_iff_not];omega)
theorem Zc(Z:1000000<=a):(J==2&&((EA a J vQ vR).1==0&&(EA a J vQ vR).2==0))=false:=by
 by_cases h:J=2
 .subst h
  simp[EA];omega
 .simp [h]
theorem Zr{I C kind Q n e d d' r B m m':Int}(Z:1000000<=I)(h:0<=n/\n<=1000)(X:0<=e/\e<=1000)(u:0<=Fi C kind n r m)(A:Fi C kind n r m<Gr C Q e B m'):((EA I kind n d).2<(EA I Q e d').1\/(Gp I kind n r m).2<(Gp I Q e B m').1\/(Gp I Q e B m').1>(EA I kind n d).2):=by
 by_cases s:C=5
 .simp only[Fi,Gr,if_pos s]at u A
  by_cases y:Q=6
  .subst y
   by_cases Y:kind=6
   .subst Y
    simp[EA]at u A ⊢;omega
   .by_cases z:kind=12
    .subst z
     simp[EA]at u A ⊢;omega
    .simp [Y,z]at u
  .rw [if_neg y]at A
   omega
 .by_cases i:C=8\/C=6
  .simp only[Fi,Gr,if_neg s,if_pos i]at u A
   unfold Gp EA
   repeat' split at A
   all_goals (repeat' split at u)
   all_goals first | omega | (simp_all;done) | (simp_all;omega)
  .simp only[Fi,if_neg s,if_neg i]at u
   omega
theorem A2t(L:List (Nat×List (Nat->Int))):∀P∈Ho L,PB P 3 9 2:=λP h=>by
 obtain⟨x,_,rfl⟩:=List.mem_map.1 h;exact A0P x.2 2 3 ZbA
theorem A5H(L:List (Nat×List (Nat->Int))):PB (pC L) 3 9 2:=by
 unfold pC;split
 .exact PB.nil
 .rename_i h
  have Q:2%(Ho L).length<(Ho L).length:=Nat.mod_lt _ Zbx;rw[List.getD_eq_getElem?_getD,List.getElem?_eq_getElem Q];exact A2t L _ (List.getElem_mem Q)
theorem YD(z:Nat):(IT z).length<=10:=by
 unfold IT
 repeat' split
 all_goals simp[revRows,Gx]
structure ClOk(kind n d r:Int)(P:List Tm)(o:List (Nat->Int))(s:List Int)(b:List (Nat->RQ×RQ)):Prop where
 kd:1<=kind/\kind<=13
 pb:PB P 3 9 2
 nb:0<=n/\n<=1000
 rb:0<=r/\r<=1000
 rn:0<=r/\r<=n\/kind≠6
 r5:kind=5->r=0
 ob:o.length<=1000
 sb:s.length<=1000
 bb:b.length<=1000
theorem ClOk.mk'{c:Clm}(P:List Tm)(Q:List (List Tm))(F:c.p=P.map Em)(L:c.l=rQ Q)(h:ClOk c.kind c.n c.d c.r P c.o c.s c.b):∃kind P n d r o Q s b,c=⟨kind,P.map Em,n,d,r,o,rQ Q,s,b⟩/\ClOk kind n d r P o s b:=by
 obtain⟨kind,p,n,d,r,o,l,s,b⟩:=c
 dsimp only at F L h
 subst F;subst L;exact⟨_,_,_,_,_,_,_,_,_,rfl,h⟩
theorem OO(W:Nat)(L:List (Nat×List (Nat->Int)))(V:List Int)(f:I8 V):∃kind P n d r o Q s b,Dq W L V=⟨kind,P.map Em,n,d,r,o,rQ Q,s,b⟩/\ClOk kind n d r P o s b:=by
 have u:=Fm f 1;have I:=Fm f 3;have F:=A5H L;have A:W%13<13:=Nat.mod_lt _ ZbA;unfold Dq;by_cases q:W%13=0\/W%13=1\/W%13=9
 .rw [if_pos q]
  exact ClOk.mk' (pC L) [] rfl rfl ⟨by dsimp only;omega,F,by dsimp only;omega,by dsimp only;omega,.inl Zco,λ_=>rfl,by simp,by simp,by simp⟩
 rw[if_neg q];by_cases H:W%13=3
 .rw [if_pos H]
  exact ClOk.mk' [] _ rfl rfl ⟨by dsimp only;omega,PB.nil,by dsimp only;omega,by dsimp only;omega,.inl Zco,λ_=>rfl,by have:=YD (Bw V 2%256).toNat;exact Nat.le_trans this ZbA,by simp,by simp⟩
 rw[if_neg H];by_cases B:W%13=4
 .rw [if_pos B]
  exact ZhZ
 rw[if_neg B];by_cases C:W%13=5
 .rw [if_pos C]
  exact ClOk.mk' [] [] rfl rfl ⟨by dsimp only;omega,PB.nil,by dsimp only;omega,by dsimp only;omega,.inl Zco,λh=>(by dsimp only at h;omega),by simp,by simp,by simp⟩
 rw[if_neg C];by_cases E:W%13=6
 .rw [if_pos E]
  exact ClOk.mk' [] [] rfl rfl ⟨by dsimp only;omega,PB.nil,by dsimp only;omega,by dsimp only;omega,.inl Zco,λ_=>rfl,by simp,by simp,by simp;omega⟩
 rw[if_neg E];by_cases K:W%13=7
 .rw [if_pos K]
  exact ClOk.mk' (pC L) [] rfl rfl ⟨by dsimp only;omega,F,by dsimp only;omega,by dsimp only;omega,.inl Zco,λ_=>rfl,by simp,by simp;omega,by simp;omega⟩
 rw[if_neg K];by_cases G:W%13=10
 .rw [if_pos G]
  exact ClOk.mk' [] _ rfl rfl ⟨by dsimp only;omega,PB.nil,by dsimp only;omega,by dsimp only;omega,.inl Zco,λ_=>rfl,by simp,by simp,by simp⟩
 rw[if_neg G];by_cases j:W%13=11\/W%13=12
 .rw [if_pos j]
  exact ZhZ
 rw[if_neg j];exact ZhZ
def clhB(q:Bool)(kind Q n e d d' r I:Int)(s c:List Int)(b x:List (Nat->RQ×RQ)):Bool:=
 LR q kind Q n e d d' r I s c||rgP kind (EA 1073741824 kind n d) (EA 1073741824 Q e d') (Gp 1073741824 kind n r (b.length:Nat)) (Gp 1073741824 Q e I (x.length:Nat))||(kind==2&&((EA 1073741824 Q e d').1==0&&(EA 1073741824 Q e d').2==0))
section
variable {kind kind' n n' d d' r r':Int} {P P':List Tm} {o o':List (Nat->Int)} {s s':List Int} {b b':List (Nat->RQ×RQ)}
theorem PB.psz9{P:List Tm}(h:PB P 3 9 2):PSz P 1000000000:=h.sz.mono ZbA
theorem XV(h:ClOk kind n d r P o s b)(u:ClOk kind' n' d' r' P' o' s' b'):(Ve (Fa P P') kind kind' n n' d d' r r' s s'||rgP kind (EA 1099511627776 kind n d) (EA 1099511627776 kind' n' d') (Gp 1099511627776 kind n r (b.length:Nat)) (Gp 1099511627776 kind' n' r' (b'.length:Nat))||(kind==2&&(EA 1099511627776 kind' n' d').2==0))=clhB (decide (CC P P'=0)) kind kind' n n' d d' r r' s s' b b':=by
 have E:=h.bb;have A:=u.bb;unfold clhB;rw[Ia,A40 _ _ _ _ _ _ _ _ _ _ _ h.r5 u.r5,A49 (I:=1073741824) (J:=1099511627776) ZbA ZbA h.nb u.nb h.rb u.rb Zbx Zbx];congr 2;have:=A6w (I:=1073741824) (J:=1099511627776) (kind:=kind') (d:=d') ZbA ZbA u.nb;rw[Bool.eq_iff_iff];simp only[beq_iff_eq,Bool.and_eq_true];exact this.symm
theorem A1e(h:ClOk kind n d r P o s b)(q:Bool):clhB q kind kind n n d d r r s s b b=false:=by
 have E:=h.bb;unfold clhB;rw[A2j,A2s ZbA h.nb h.rn Zbx,Zc ZbA];rfl
theorem XW{kq:Int}(h:ClOk kind n d r P o s b)(B:ClOk kind' n' d' r' P' o' s' b')(q:Bool)(u:0<=Fi kq kind n r (b.length:Nat))(A:Fi kq kind n r (b.length:Nat)<Gr kq kind' n' r' (b'.length:Nat)):clhB q kind kind' n n' d d' r r' s s' b b'||clhB q kind' kind n' n d' d r' r s' s b' b:=by
 have:=Zr (I:=1073741824) (d:=d) (d':=d') (m:=(b.length:Nat)) (m':=(b'.length:Nat)) ZbA h.nb B.nb u A;unfold clhB rgP;rcases this with e | e | e<;>simp[e]
end
end
end Go.Proofs.YtcikkglcoeedlaaGreat
