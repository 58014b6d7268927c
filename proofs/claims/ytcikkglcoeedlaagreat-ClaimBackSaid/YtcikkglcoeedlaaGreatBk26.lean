/- Part 26. No condition. -/
import Derived.Test.YtcikkglcoeedlaaGreatBk18
import Derived.Test.YtcikkglcoeedlaaGreatBk21
import Derived.Test.YtcikkglcoeedlaaGreatBk23
set_option linter.unusedSimpArgs false
set_option linter.unusedVariables false
set_option maxRecDepth 100000
set_option maxHeartbeats 4000000
namespace Go.Proofs.YtcikkglcoeedlaaGreat
open _root_.Go.Proofs.Tryz
open Go.RowKit
variable{vK:Array Edge}{uK:Crt}{o:IntKind}{v:List D}{H:List Ow}{n b T m c k h:Nat}{x y:Operand}{vC:Operand->AV}{vV:Option (Nat×Bool)}{vF:Option Tmp}{P:Program}{vJ:String}{d:TypeDesc}{t U:TypeId}{z u:Value}
theorem WS(s:Bool)(l:List Nat)(J:SmW l):Wb 221 (AP [ex (.bool s),wD l]) (Fw s l):=Wb.intro λb F=>by
 have A:∀k,k<l.length->l.getD k 0<4294967296:=λk C=>J.1 _ (BC C);have q:=J.2;have V:(Fw s l).length=(Bv (2*l.length+(if s=true then 1 else 0))).length+(l.flatMap Cw).length:=by rw[Fw,Yaa]
 have Y:2*l.length+(if s=true then 1 else 0)<18446744073709551616:=by split<;>omega
 obtain⟨N,R⟩:∃N,N=2*l.length+(if s=true then 1 else 0):=⟨_,rfl⟩;have i:Fw s l=Bv N++l.flatMap Cw:=by rw[R];rfl
 rw[<-R]at Y V;have I:=GM N Y b ZbD;refine Dn func221 rfl (Ag func221 ZbI ZbI) rfl λv=>?_;rw[ntmps221];intro O;cases s
 .have B:N=2*l.length:=by rw [R];simp
  apply Y1;refine Bx ?_;refine Wa<|Y0<|Y1<|Wa<|Y0<|Ai<|Y1 ?_;refine Wq AB ?_;refine Wq Ar ?_;refine Y0<|Cf<|Ys<|Y1<|Wm ?_;refine Wq AB ?_;refine Wq Ar ?_;refine Wq QE ?_;refine Wq (AO (r:=((l.length:Nat):Int)) (ao rfl) (Aa rfl) (Aa rfl) (ET ZbD)) ?_;refine Wq (GU (r:=((2*l.length:Nat):Int)) (ao rfl) (ao rfl) ZcJ) ?_;refine Wm ?_;refine Wq (DN (r:=((2*l.length:Nat):Int)) (ao rfl) (ao rfl) ZcJ) ?_
  refine Cv [0] (ZeB) rfl ZbF rfl ZbC ZbA ZbH Zby rfl ?_;rintro _ _ ⟨rfl,rfl⟩;refine ZfO ?_;refine AC (λu d=>∃k,k<=l.length/\u=l.length-k/\d=⟨[(0,.own 0),(3,.ptr 2 0),(6,.d (ex (.int .i64 (k:Nat))))],[.row 5 1 (Da (b++Bv N++(l.take k).flatMap Cw)),.pin [],.var 109 ([ex (.bool false),wD l].map .d)]⟩) ?le ⟨0,by omega,rfl,rfl⟩ ?round
  case le=>exact Zkm
  case round=>
   exact Zbh
 .have B:N=2*l.length+1:=by rw [R];simp
  apply Y1;refine Bx ?_;refine Wa<|Y0<|Y1<|Wa<|Y0<|Ai<|Y1 ?_;refine Wq AB ?_;refine Wq Ar ?_;refine Y0<|Ct<|AWp.region<|Wa<|Y0<|Y1<|Wm ?_;refine Wq AB ?_;refine Wq Ar ?_;refine Wq QE ?_;refine Wq (AO (r:=((l.length:Nat):Int)) (ao rfl) (Aa rfl) (Aa rfl) (ET ZbD)) ?_;refine Wq (GU (r:=((2*l.length:Nat):Int)) (ao rfl) (ao rfl) ZcJ) ?_;refine Wm ?_;refine Wq (DN (r:=((2*l.length+1:Nat):Int)) (ao rfl) (ao rfl) ZcJ) ?_
  refine Cv [0] (ZeB) rfl ZbF rfl ZbC ZbA ZbH Zby rfl ?_;rintro _ _ ⟨rfl,rfl⟩;refine ZfO ?_;refine AC (λu d=>∃k,k<=l.length/\u=l.length-k/\d=⟨[(0,.own 0),(3,.ptr 2 0),(6,.d (ex (.int .i64 (k:Nat))))],[.row 5 1 (Da (b++Bv N++(l.take k).flatMap Cw)),.pin [],.var 109 ([ex (.bool true),wD l].map .d)]⟩) ?le ⟨0,by omega,rfl,rfl⟩ ?round
  case le=>exact Zkm
  case round=>
   exact Zbh
theorem EW(q:RQ)(l:QB q):Wb 125 (AP (Hh q)) (CC q):=Wb.intro λb F=>by
 simp only[CC,Yaa]at F;have c:=WS q.b q.l l.n b ZbD;have A:=WS q.b' q.l' l.d (b++Fw q.b q.l) ZbX;refine Dn func125 rfl (Ag func125 ZbI ZbI) rfl λv=>?_;rw[ntmps125];intro O;refine Go ?_;refine Fi 0 5 1 (λo=>Da (([b,b++Fw q.b q.l,b++Fw q.b q.l++Fw q.b' q.l']:List (List Nat)).getD o [])) 2 (some 0) (λk=>([3,6]:List Nat).getD k 0) [.o 0,.q (.ptr 2 0),.q (.d (AP [ex (.bool q.b),wD q.l])),.t 0,.q (.ptr 2 2),.q (.d (AP [ex (.bool q.b'),wD q.l'])),.t 1,.o 2] [[],[],[(6,1)],[(5,0),(7,2)],[],[(9,4)],[(8,3),(10,5)],[(11,6)]] [(3,.ptr 2 0)] [(4,.own 0)] ZbI rfl ⟨rfl,trivial⟩ (λ_ h=>by cases h;rfl) (by refine CSteps.s ?_;refine EU ?_;refine EU ?_;refine On (c) ?_;refine EU ?_;refine EU ?_;refine On (A) ?_;refine CSteps.s ?_;exact CSteps.nil) ZbI rfl ZbF ⟨rfl,trivial⟩ [.row 5 1 (Da (b++Fw q.b q.l++Fw q.b' q.l')),.pin [],.var 111 ((Hh q).map .d)] rfl ?_;refine Go ?_
 first | refine Bt (RetsA.one rfl) rfl ?_ rfl | refine AW (RetsA.one rfl) rfl ?_ rfl
 exact Zkd
theorem IM{I:Type}[Inhabited I]{e n b g G T F k:Nat}{f:I->List D}{l:List I}{A:I}(E:HW H (vC x)=some (slD T F (l.map f)))(O:vC y=.d (ex (.int o (k:Nat))))(M:Tab P U (.slice e) n b z)(B:Tab P e d g G u)(J:g=F)(C:k<l.length)(S:A=l.getD k default):Quiet P H ⟨vF,.indexAddr U x y,t,vJ,vK,vV⟩ vC (.d (Fg T (f A))):=S▸CE E O M B J C
theorem Vm(L:List (RTm))(p:Fy TW L):Wb 58 (KD L) (CB L):=Wb.intro λb F=>by
 have f:=Dk (e:=Es) (l:=L) λx _=>QW x;have V:(CB L).length=(Bv L.length).length+(L.flatMap Es).length:=by rw[CB,Br,Yaa]
 rw[V]at F;have c:=GM L.length ZbD b ZbD;refine Dn func58 rfl (Ag func58 ZbI ZbI) rfl λv=>?_;rw[ntmps58];intro O;refine Y1<|Wa<|Y0<|Y1<|Wm<|Wm ?_;refine Wq (Bi rfl (Aa rfl)) ?_;refine Wq (AO (r:=((L.length:Nat):Int)) (ao rfl) (Aa rfl) (Aa rfl) (ET ZbD)) ?_
 refine Cv [0] (c) rfl ZbF rfl ZbC ZbA ZbH Zby rfl ?_;rintro _ _ ⟨rfl,rfl⟩;refine ZfO ?_;refine AC (λu d=>∃k,k<=L.length/\u=L.length-k/\d=⟨[(0,.own 0),(1,.d (KD L)),(5,.d (ex (.int .i64 (k:Nat))))],[.row 5 1 (Da (b++Bv L.length++(L.take k).flatMap Es)),.pin []]⟩) ?le ⟨0,by omega,rfl,rfl⟩ ?round
 case le=>exact Ac Zcf ZcL
 case round=>
  rintro u _ ⟨k,C,rfl,rfl⟩;by_cases Q:k<L.length
  .have C:=Df Es Q
   obtain⟨t,M⟩:∃t,t=L.getD k default:=⟨_,rfl⟩;have A:=p _ (BC Q);rw[<-M]at C A;have P:(Es t).length=(CC ⟨t.b,t.l,t.b',t.l'⟩).length+(DB (λz=>Bv (u64 z)) t.m 8).length:=by rw[<-Yaa];rfl
   have I:=EW ⟨t.b,t.l,t.b',t.l'⟩ ⟨A.n,A.d⟩ (b++Bv L.length++(L.take k).flatMap  Es) ZbX;refine Ai<|Y1<|Wm<|Wm ?_;refine Wq (Bi rfl (Aa rfl)) ?_;refine Wq Bb ?_;refine Y0<|Ct<|Ys<|Ai<|AWp.block<|Y1<|Wm<|Wm<|Wm ?_;refine Wq (IM (k:=k) rfl (ao rfl) (Aa rfl) (Aa rfl) rfl Q M) ?_;refine Wq AE ?_;refine Wq Fb ?_
   refine Cv [0] (I) rfl ZbF rfl ZbC ZbA ZbH Zby rfl ?_;rintro _ _ ⟨rfl,rfl⟩;refine ZfO ?_;refine AC (λu d=>∃j,j<=8/\u=8-j/\d=⟨[(0,.own 0),(1,.d (KD L)),(5,.d (ex (.int .i64 (k:Nat)))),(6,.d (ex (.int .i64 (j:Nat))))],[.row 5 1 (Da (b++Bv L.length++(L.take k).flatMap Es++CC ⟨t.b,t.l,t.b',t.l'⟩++DB (λz=>Bv (u64 z)) t.m j)),.pin []]⟩) ?lej ⟨0,by omega,rfl,rfl⟩ ?roundj
   case lej=>exact Ac ZcC Zdj
   case roundj=>
    rintro u _ ⟨j,a,rfl,rfl⟩;by_cases U:j<8
    .have B:=Gl (λz=>Bv (u64 z)) t.m U
     have E:=GM (u64 (t.m j)) (by unfold u64;omega) (b++Bv L.length++(L.take k).flatMap Es++CC ⟨t.b,t.l,t.b',t.l'⟩++DB (λz=>Bv (u64 z)) t.m j) ZbL;refine Ai<|Y1<|Wm ?_;refine Wq Bb ?_;refine Y0<|Ct<|Ys<|Ai<|AWp.block<|AWp.region<|Wm<|Wm<|Wm<|Wm ?_;refine Wq (IM (k:=k) rfl (ao rfl) (Aa rfl) (Aa rfl) rfl Q M) ?_;refine Wq AE ?_;refine Wq A0M ?_;refine Wq (HL (ao rfl) (Aa rfl) rfl (HN U)) ?_;refine Wq (AO (r:=((u64 (t.m j):Nat):Int)) (ao rfl) (Aa rfl) (Aa rfl) (WV (t.m j))) ?_
     refine Cv [0] (E) rfl ZbF rfl ZbC ZbA ZbH Zby rfl ?_;rintro _ _ ⟨rfl,rfl⟩;refine ZfO ?_;exact Zic
    .obtain rfl:j=8:=by omega
     refine Zfy ?_;exact Ac Zcf (by(refine HpLe.cons (OwLe.row (by rw[Ck Es Q,<-Yaf,<-M,Yaf (_++_) (CC _)];rfl)) ?_);exact HpLe.cons (Ak rfl)<|HpLe.nil)
  .obtain rfl:k=L.length:=by omega
   refine Ai<|Y1<|Wm<|Wm ?_;refine Wq (Bi rfl (Aa rfl)) ?_;refine Wq AN ?_;refine Y0<|Cf<|Cg<|BE<|BR<|BH<|Yn<|Y1<|Wm<|Wa<|Y0<|BV ?_
   first | refine Bt (RetsA.one rfl) rfl ?_ rfl | refine AW (RetsA.one rfl) rfl ?_ rfl
   exact⟨rfl,by rw[YaV,CB,Br,<-Yaf];rfl⟩
theorem JH(L:List (List RTm))(p:Fy PoW L):Wb 51 (Ib L) (Bf L):=Wb.intro λb F=>by
 have f:=Dk (e:=CB) (l:=L) λx _=>JN _ _;have V:(Bf L).length=(Bv L.length).length+(L.flatMap CB).length:=by rw[Bf,Br,Yaa]
 rw[V]at F;have c:=GM L.length ZbD b ZbD;refine Dn func51 rfl (Ag func51 ZbI ZbI) rfl λv=>?_;rw[ntmps51];intro O;refine Y1<|Wa<|Y0<|Y1<|Wm<|Wm ?_;refine Wq (Bi rfl (Aa rfl)) ?_;refine Wq (AO (r:=((L.length:Nat):Int)) (ao rfl) (Aa rfl) (Aa rfl) (ET ZbD)) ?_
 refine Cv [0] (c) rfl ZbF rfl ZbC ZbA ZbH Zby rfl ?_;rintro _ _ ⟨rfl,rfl⟩;refine ZfO ?_;refine AC (λu d=>∃k,k<=L.length/\u=L.length-k/\d=⟨[(0,.own 0),(1,.d (Ib L)),(5,.d (ex (.int .i64 (k:Nat))))],[.row 5 1 (Da (b++Bv L.length++(L.take k).flatMap CB)),.pin []]⟩) ?le ⟨0,by omega,rfl,rfl⟩ ?round
 case le=>exact Ac Zcf ZcL
 case round=>
  rintro u _ ⟨k,C,rfl,rfl⟩;by_cases Q:k<L.length
  .have C:=Df CB Q
   have I:=Vm (L.getD k default) (p _ (BC Q)) (b++Bv L.length++(L.take k).flatMap CB) ZbX;refine Ai<|Y1<|Wm<|Wm ?_;refine Wq (Bi rfl (Aa rfl)) ?_;refine Wq Bb ?_;refine Y0<|Ct<|Ys<|Ai<|AWp.block<|AWp.region<|Wm<|Wm<|Wm ?_;refine Wq (CE (k:=k) rfl (ao rfl) (Aa rfl) (Aa rfl) rfl Q) ?_;refine Wq AT ?_
   refine Cv [0] (I) rfl ZbF rfl ZbC ZbA ZbH Zby rfl ?_;rintro _ _ ⟨rfl,rfl⟩;refine ZgM ?_;exact Ac Zcf (by exact HpLe.cons (OwLe.row (by rw[Ck CB Q,<-Yaf]))<|HpLe.cons (Ak rfl)<|HpLe.nil)
  .obtain rfl:k=L.length:=by omega
   refine Ai<|Y1<|Wm<|Wm ?_;refine Wq (Bi rfl (Aa rfl)) ?_;refine Wq AN ?_;refine Y0<|Cf<|Cg<|BE<|BR<|BH<|Yn<|Y1<|Wm<|Wa<|Y0<|BV ?_
   first | refine Bt (RetsA.one rfl) rfl ?_ rfl | refine AW (RetsA.one rfl) rfl ?_ rfl
   exact⟨rfl,by rw[YaV,Bf,Br,<-Yaf];rfl⟩
theorem QY(L:List (List (List RTm)))(p:Fy PsW L):Wb 201 (SY L) (BJ L):=Wb.intro λb F=>by
 have f:=Dk (e:=Bf) (l:=L) λx _=>JN _ _;have V:(BJ L).length=(Bv L.length).length+(L.flatMap Bf).length:=by rw[BJ,Br,Yaa]
 rw[V]at F;have c:=GM L.length ZbD b ZbD;refine Dn func201 rfl (Ag func201 ZbI ZbI) rfl λv=>?_;rw[ntmps201];intro O;refine Y1<|Wa<|Y0<|Y1<|Wm<|Wm ?_;refine Wq (Bi rfl (Aa rfl)) ?_;refine Wq (AO (r:=((L.length:Nat):Int)) (ao rfl) (Aa rfl) (Aa rfl) (ET ZbD)) ?_
 refine Cv [0] (c) rfl ZbF rfl ZbC ZbA ZbH Zby rfl ?_;rintro _ _ ⟨rfl,rfl⟩;refine ZfO ?_;refine AC (λu d=>∃k,k<=L.length/\u=L.length-k/\d=⟨[(0,.own 0),(1,.d (SY L)),(5,.d (ex (.int .i64 (k:Nat))))],[.row 5 1 (Da (b++Bv L.length++(L.take k).flatMap Bf)),.pin []]⟩) ?le ⟨0,by omega,rfl,rfl⟩ ?round
 case le=>exact Ac Zcf ZcL
 case round=>
  rintro u _ ⟨k,C,rfl,rfl⟩;by_cases Q:k<L.length
  .have C:=Df Bf Q
   have I:=JH (L.getD k default) (p _ (BC Q)) (b++Bv L.length++(L.take k).flatMap Bf) ZbX;refine Ai<|Y1<|Wm<|Wm ?_;refine Wq (Bi rfl (Aa rfl)) ?_;refine Wq Bb ?_;refine Y0<|Ct<|Ys<|Ai<|AWp.block<|AWp.region<|Wm<|Wm<|Wm ?_;refine Wq (CE (k:=k) rfl (ao rfl) (Aa rfl) (Aa rfl) rfl Q) ?_;refine Wq AT ?_
   refine Cv [0] (I) rfl ZbF rfl ZbC ZbA ZbH Zby rfl ?_;rintro _ _ ⟨rfl,rfl⟩;refine ZgM ?_;exact Ac Zcf (by exact HpLe.cons (OwLe.row (by rw[Ck Bf Q,<-Yaf]))<|HpLe.cons (Ak rfl)<|HpLe.nil)
  .obtain rfl:k=L.length:=by omega
   refine Ai<|Y1<|Wm<|Wm ?_;refine Wq (Bi rfl (Aa rfl)) ?_;refine Wq AN ?_;refine Y0<|Cf<|Cg<|BE<|BR<|BH<|Yn<|Y1<|Wm<|Wa<|Y0<|BV ?_
   first | refine Bt (RetsA.one rfl) rfl ?_ rfl | refine AW (RetsA.one rfl) rfl ?_ rfl
   exact⟨rfl,by rw[YaV,BJ,Br,<-Yaf];rfl⟩
theorem WU(L:List (RQ))(p:Fy QB L):Wb 202 (GY L) (Ge L):=Wb.intro λb F=>by
 have f:=Dk (e:=CC) (l:=L) λx _=>IY x;have V:(Ge L).length=(Bv L.length).length+(L.flatMap CC).length:=by rw[Ge,Br,Yaa]
 rw[V]at F;have c:=GM L.length ZbD b ZbD;refine Dn func202 rfl (Ag func202 ZbI ZbI) rfl λv=>?_;rw[ntmps202];intro O;refine Y1<|Wa<|Y0<|Y1<|Wm<|Wm ?_;refine Wq (Bi rfl (Aa rfl)) ?_;refine Wq (AO (r:=((L.length:Nat):Int)) (ao rfl) (Aa rfl) (Aa rfl) (ET ZbD)) ?_
 refine Cv [0] (c) rfl ZbF rfl ZbC ZbA ZbH Zby rfl ?_;rintro _ _ ⟨rfl,rfl⟩;refine ZfO ?_;refine AC (λu d=>∃k,k<=L.length/\u=L.length-k/\d=⟨[(0,.own 0),(1,.d (GY L)),(5,.d (ex (.int .i64 (k:Nat))))],[.row 5 1 (Da (b++Bv L.length++(L.take k).flatMap CC)),.pin []]⟩) ?le ⟨0,by omega,rfl,rfl⟩ ?round
 case le=>exact Ac Zcf ZcL
 case round=>
  rintro u _ ⟨k,C,rfl,rfl⟩;by_cases Q:k<L.length
  .have C:=Df CC Q
   have I:=EW (L.getD k default) (p _ (BC Q)) (b++Bv L.length++(L.take k).flatMap CC) ZbX;refine Ai<|Y1<|Wm<|Wm ?_;refine Wq (Bi rfl (Aa rfl)) ?_;refine Wq Bb ?_;refine Y0<|Ct<|Ys<|Ai<|AWp.block<|AWp.region<|Wm<|Wm<|Wm ?_;refine Wq (CE (k:=k) rfl (ao rfl) (Aa rfl) (Aa rfl) rfl Q) ?_;refine Wq Ca ?_
   refine Cv [0] (I) rfl ZbF rfl ZbC ZbA ZbH Zby rfl ?_;rintro _ _ ⟨rfl,rfl⟩;refine ZgM ?_;exact Ac Zcf (by exact HpLe.cons (OwLe.row (by rw[Ck CC Q,<-Yaf]))<|HpLe.cons (Ak rfl)<|HpLe.nil)
  .obtain rfl:k=L.length:=by omega
   refine Ai<|Y1<|Wm<|Wm ?_;refine Wq (Bi rfl (Aa rfl)) ?_;refine Wq AN ?_;refine Y0<|Cf<|Cg<|BE<|BR<|BH<|Yn<|Y1<|Wm<|Wa<|Y0<|BV ?_
   first | refine Bt (RetsA.one rfl) rfl ?_ rfl | refine AW (RetsA.one rfl) rfl ?_ rfl
   exact⟨rfl,by rw[YaV,Ge,Br,<-Yaf];rfl⟩
theorem Xx(L:List (Nat->Int))(p:Fy (Fz IW) L):Wb 57 (Ep L) (Cs L):=Wb.intro λb F=>by
 have f:=Dk (e:=Gi) (l:=L) λx _=>Id LM _;have V:(Cs L).length=(Bv L.length).length+(L.flatMap Gi).length:=by rw[Cs,Br,Yaa]
 rw[V]at F;have c:=GM L.length ZbD b ZbD;refine Dn func57 rfl (Ag func57 ZbI ZbI) rfl λv=>?_;rw[ntmps57];intro O;refine Y1<|Wa<|Y0<|Y1<|Wm<|Wm ?_;refine Wq (Bi rfl (Aa rfl)) ?_;refine Wq (AO (r:=((L.length:Nat):Int)) (ao rfl) (Aa rfl) (Aa rfl) (ET ZbD)) ?_
 refine Cv [0] (c) rfl ZbF rfl ZbC ZbA ZbH Zby rfl ?_;rintro _ _ ⟨rfl,rfl⟩;refine ZfO ?_;refine AC (λu d=>∃k,k<=L.length/\u=L.length-k/\d=⟨[(0,.own 0),(1,.d (Ep L)),(5,.d (ex (.int .i64 (k:Nat))))],[.row 5 1 (Da (b++Bv L.length++(L.take k).flatMap Gi)),.pin []]⟩) ?le ⟨0,by omega,rfl,rfl⟩ ?round
 case le=>exact Ac Zcf ZcL
 case round=>
  rintro u _ ⟨k,C,rfl,rfl⟩;by_cases Q:k<L.length
  .have C:=Df Gi Q
   obtain⟨t,M⟩:∃t,t=L.getD k default:=⟨_,rfl⟩;have A:=p _ (BC Q);rw[<-M]at C A;have P:(Gi t).length=(DB Bo t 8).length:=rfl;refine Ai<|Y1<|Wm<|Wm ?_;refine Wq (Bi rfl (Aa rfl)) ?_;refine Wq Bb ?_;refine Y0<|Ct<|Ys<|Ai<|AWp.block<|Y1<|Wa<|Y0<|AWp.block ?_
   refine AC (λu d=>∃j,j<=8/\u=8-j/\d=⟨[(0,.own 0),(1,.d (Ep L)),(5,.d (ex (.int .i64 (k:Nat)))),(6,.d (ex (.int .i64 (j:Nat))))],[.row 5 1 (Da (b++Bv L.length++(L.take k).flatMap Gi++DB (Bo) t j)),.pin []]⟩) ?lej ⟨0,by omega,rfl,rfl⟩ ?roundj
   case lej=>exact Ac ZcC Zdj
   case roundj=>
    rintro u _ ⟨j,a,rfl,rfl⟩;by_cases U:j<8
    .have B:=Gl (Bo) t U
     have E:=FO (t j) (A j U) (b++Bv L.length++(L.take k).flatMap Gi++DB (Bo) t j) ZbL;refine Ai<|Y1<|Wm ?_;refine Wq Bb ?_;refine Y0<|Ct<|Ys<|Ai<|AWp.block<|AWp.region<|Wm<|Wm<|Wm<|Wm ?_;refine Wq (IM (k:=k) rfl (ao rfl) (Aa rfl) (Aa rfl) rfl Q M) ?_;refine Wq (Lu (k:=j) (ao rfl) (ao rfl) (Aa rfl) (Aa rfl) U) ?_;refine Wq (HL (ao rfl) (Aa rfl) rfl (HN U)) ?_
     refine Cv [0] (E) rfl ZbF rfl ZbC ZbA ZbH Zby rfl ?_;rintro _ _ ⟨rfl,rfl⟩;refine ZfO ?_;exact Zic
    .obtain rfl:j=8:=by omega
     refine Zfy ?_;exact Ac Zcf (by(refine HpLe.cons (OwLe.row (by rw[Ck Gi Q,<-Yaf,<-M];rfl)) ?_);exact HpLe.cons (Ak rfl)<|HpLe.nil)
  .obtain rfl:k=L.length:=by omega
   refine Ai<|Y1<|Wm<|Wm ?_;refine Wq (Bi rfl (Aa rfl)) ?_;refine Wq AN ?_;refine Y0<|Cf<|Cg<|BE<|BR<|BH<|Yn<|Y1<|Wm<|Wa<|Y0<|BV ?_
   first | refine Bt (RetsA.one rfl) rfl ?_ rfl | refine AW (RetsA.one rfl) rfl ?_ rfl
   exact⟨rfl,by rw[YaV,Cs,Br,<-Yaf];rfl⟩
theorem A6h{F:Array Field}{N:Field}(E:vC x=.d (Fg k v))(r:Tab P U (.struct F) b T z)(B:F[n]? = some N)(A:Tab P N.type d m c u)(f:Nat.beq m 0=false)(C:N.offset=h):Quiet P H ⟨vF,.fieldAddr U x n,t,vJ,vK,vV⟩ vC (.d (Fg k (v.drop h))):=by
 subst C;exact NU (o:=⟨vF,.fieldAddr U x n,t,vJ,vK,vV⟩) rfl E r B A (YaI f)
theorem A17{f:Nat->RQ×RQ}(h:n<8):PartAt (((Dv f).drop (n*8)).drop 0) 0 4 (Hh (f n).1):=by
 have A:=Dm (c:=λi=>Jf (f i)) (n:=8) (λ_=>rfl) h;have J:(GL λi=>Jf (f i)).length=64:=Ev (n:=8) (λ_=>rfl);refine⟨by simp only[Dv,YbQ,J];omega,?_⟩;have B:=A.eq;have:(Hh (f n).1)=(Jf (f n)).take 4:=rfl;rw[this,<-B,YaU,YaU,YeJ];rfl
theorem A16{f:Nat->RQ×RQ}(h:n<8):PartAt (((Dv f).drop (n*8)).drop 4) 0 4 (Hh (f n).2):=by
 have A:=Dm (c:=λi=>Jf (f i)) (n:=8) (λ_=>rfl) h;have J:(GL λi=>Jf (f i)).length=64:=Ev (n:=8) (λ_=>rfl);refine⟨by simp only[Dv,YbQ,J];omega,?_⟩;have B:=A.eq;have:(Hh (f n).2)=(Jf (f n)).drop 4:=rfl;rw[this,<-B,YaU,List.drop_take];rfl
theorem YG(L:List (Nat->RQ×RQ))(p:Fy (Fz VW) L):Wb 203 (Gb L) (EQ L):=Wb.intro λb F=>by
 have f:=Dk (e:=GQ) (l:=L) λx _=>Id OT _;have V:(EQ L).length=(Bv L.length).length+(L.flatMap GQ).length:=by rw[EQ,Br,Yaa]
 rw[V]at F;have c:=GM L.length ZbD b ZbD;refine Dn func203 rfl (Ag func203 ZbI ZbI) rfl λv=>?_;rw[ntmps203];intro O;refine Y1<|Wa<|Y0<|Y1<|Wm<|Wm ?_;refine Wq (Bi rfl (Aa rfl)) ?_;refine Wq (AO (r:=((L.length:Nat):Int)) (ao rfl) (Aa rfl) (Aa rfl) (ET ZbD)) ?_
 refine Cv [0] (c) rfl ZbF rfl ZbC ZbA ZbH Zby rfl ?_;rintro _ _ ⟨rfl,rfl⟩;refine ZfO ?_;refine AC (λu d=>∃k,k<=L.length/\u=L.length-k/\d=⟨[(0,.own 0),(1,.d (Gb L)),(5,.d (ex (.int .i64 (k:Nat))))],[.row 5 1 (Da (b++Bv L.length++(L.take k).flatMap GQ)),.pin []]⟩) ?le ⟨0,by omega,rfl,rfl⟩ ?round
 case le=>exact Ac Zcf ZcL
 case round=>
  rintro u _ ⟨k,C,rfl,rfl⟩;by_cases Q:k<L.length
  .have C:=Df GQ Q
   obtain⟨t,M⟩:∃t,t=L.getD k default:=⟨_,rfl⟩;have B:=p _ (BC Q);rw[<-M]at C B;have P:(GQ t).length=(DB GC t 8).length:=rfl;refine Ai<|Y1<|Wm<|Wm ?_;refine Wq (Bi rfl (Aa rfl)) ?_;refine Wq Bb ?_;refine Y0<|Ct<|Ys<|Ai<|AWp.block<|Y1<|Wa<|Y0<|AWp.block ?_
   refine AC (λu d=>∃j,j<=8/\u=8-j/\d=⟨[(0,.own 0),(1,.d (Gb L)),(5,.d (ex (.int .i64 (k:Nat)))),(6,.d (ex (.int .i64 (j:Nat))))],[.row 5 1 (Da (b++Bv L.length++(L.take k).flatMap GQ++DB GC t j)),.pin []]⟩) ?lej ⟨0,by omega,rfl,rfl⟩ ?roundj
   case lej=>exact Ac ZcC Zdj
   case roundj=>
    rintro u _ ⟨j,a,rfl,rfl⟩;by_cases U:j<8
    .have E:=Gl GC t U
     have e:=B j U;have i:(GC (t j)).length=(CC (t j).1).length+(CC (t j).2).length:=by rw[GC,Yaa]
     have c:=EW (t j).1 e.1 (b++Bv L.length++(L.take k).flatMap GQ++DB GC t j) ZbX;have A:=EW (t j).2 e.2 (b++Bv L.length++(L.take k).flatMap GQ++DB GC t j++CC (t j).1) ZbX;refine Go ?_;refine Fi 0 5 1 (λo=>Da (([b++Bv L.length++(L.take k).flatMap GQ++DB GC t j,b++Bv L.length++(L.take k).flatMap GQ++DB GC t j++CC (t j).1,b++Bv L.length++(L.take k).flatMap GQ++DB GC t j++CC (t j).1++CC (t j).2]:List (List Nat)).getD o [])) 2 (some 0) (λk=>([8,16]:List Nat).getD k 0) [.o 0,.q (.d (Gb L)),.q (.d (ex (.int .i64 (k:Nat)))),.q (.d (ex (.int .i64 (j:Nat)))),.q (.d (Fg 131 (Dv t))),.q (.d (Fg 131 ((Dv t).drop (j*8)))),.q (.d (Fg 131 (((Dv t).drop (j*8)).drop 0))),.q (.d (AP (Hh (t j).1))),.t 0,.q (.d (Gb L)),.q (.d (ex (.int .i64 (k:Nat)))),.q (.d (ex (.int .i64 (j:Nat)))),.q (.d (Fg 131 (Dv t))),.q (.d (Fg 131 ((Dv t).drop (j*8)))),.q (.d (Fg 131 (((Dv t).drop (j*8)).drop 4))),.q (.d (AP (Hh (t j).2))),.t 1,.o 2] [[],[],[],[],[(23,1),(24,2)],[(26,4),(25,3)],[(27,5)],[(28,6)],[(22,0),(29,7)],[],[],[],[(31,9),(32,10)],[(34,12),(33,11)],[(35,13)],[(36,14)],[(30,8),(37,15)],[(38,16)]] [(1,.d (Gb L)),(5,.d (ex (.int .i64 (k:Nat)))),(6,.d (ex (.int .i64 (j:Nat))))] [(0,.own 0),(1,.d (Gb L)),(5,.d (ex (.int .i64 (k:Nat)))),(6,.d (ex (.int .i64 (j:Nat))))] ZbI rfl ⟨rfl,rfl,rfl,trivial⟩ (λ_ h=>by cases h;rfl) (by refine CSteps.s ?_;refine EU ?_;refine EU ?_;refine EU ?_;refine EU ?_;refine EU ?_;refine EU ?_;refine EU ?_;refine On (c) ?_;refine EU ?_;refine EU ?_;refine EU ?_;refine EU ?_;refine EU ?_;refine EU ?_;refine EU ?_;refine On (A) ?_;refine CSteps.s ?_;exact CSteps.nil) ZbI rfl ZbF ⟨rfl,rfl,rfl,rfl,trivial⟩ [.row 5 1 (Da (b++Bv L.length++(L.take k).flatMap GQ++DB GC t j++CC (t j).1++CC (t j).2)),.pin []] rfl ?_;refine Go ?_;refine Ah (8-(j+1)) ZbD ⟨j+1,by omega,rfl,rfl⟩ ?_;exact Ac ZcC (by(refine HpLe.cons (OwLe.row (by rw[Eq,GC];simp only[Yaf])) ?_);exact HpLe.cons (Ak rfl)<|HpLe.nil)
    .obtain rfl:j=8:=by omega
     refine Zfy ?_;exact Ac Zcf (by(refine HpLe.cons (OwLe.row (by rw[Ck GQ Q,<-Yaf,<-M];rfl)) ?_);exact HpLe.cons (Ak rfl)<|HpLe.nil)
  .obtain rfl:k=L.length:=by omega
   refine Ai<|Y1<|Wm<|Wm ?_;refine Wq (Bi rfl (Aa rfl)) ?_;refine Wq AN ?_;refine Y0<|Cf<|Cg<|BE<|BR<|BH<|Yn<|Y1<|Wm<|Wa<|Y0<|BV ?_
   first | refine Bt (RetsA.one rfl) rfl ?_ rfl | refine AW (RetsA.one rfl) rfl ?_ rfl
   exact⟨rfl,by rw[YaV,EQ,Br,<-Yaf];rfl⟩
theorem LS{A:Type}{e:A->List Nat}(l:List A)(h:∀x,0<(e x).length):l.length<=(l.flatMap e).length:=Dk (e:=e) (l:=l) λx _=>h x
theorem A7J(k:Cor)(h:CoW k):Wb 19 (AP (Eb k)) (FS k):=Wb.intro λb F=>by
 have V:FS k=Bo k.n++(Bf k.e++(Bf k.f)):=by simp only[FS,Yaf]
 rw[V]at F;simp only[Yaa]at F;obtain⟨Y,J⟩:∃B,B=b++Bo k.n:=⟨_,rfl⟩;have G:Y.length=b.length+(Bo k.n).length:=by rw[J,Yaa]
 have A:=FO k.n h.n b ZbD;rw[<-J]at A;obtain⟨I,K⟩:∃B,B=Y++Bf k.e:=⟨_,rfl⟩;have E:I.length=Y.length+(Bf k.e).length:=by rw[K,Yaa]
 have C:=JH k.e h.e Y ZbD;rw[<-K]at C;obtain⟨w,H⟩:∃B,B=I++Bf k.f:=⟨_,rfl⟩;have z:w.length=I.length+(Bf k.f).length:=by rw[H,Yaa]
 have L:=JH k.f h.f I ZbD;rw[<-H]at L;have P:b++FS k=w:=by rw[H,K,J];simp only[FS,Yaf]
 refine Dn func19 rfl (Ag func19 ZbI ZbI) rfl λv=>?_;rw[ntmps19];intro O;apply Y1;refine Bx ?_;refine Wa<|Y0<|Ai ?_
 refine Fi 0 5 1 (λo=>Da (([b,Y,I,w]:List (List Nat)).getD o [])) 3 (some 0) (λk=>([3,6,9]:List Nat).getD k 0) [.o 0,.q (.ptr 2 0),.q (.d (ex (.int .i64 k.n))),.t 0,.q (.ptr 2 1),.q (.d (Ib k.e)),.t 1,.q (.ptr 2 2),.q (.d (Ib k.f)),.t 2,.o 3] [[],[],[(6,1)],[(5,0),(7,2)],[],[(9,4)],[(8,3),(10,5)],[],[(12,7)],[(11,6),(13,8)],[(14,9)]] [(3,.ptr 2 0)] [(4,.own 0)] ZbI rfl ⟨rfl,trivial⟩ (λ_ h=>by cases h;rfl) (by refine CSteps.s ?_;refine EU ?_;refine EU ?_;refine On (A) ?_;refine EU ?_;refine EU ?_;refine On (C) ?_;refine EU ?_;refine EU ?_;refine On (L) ?_;refine CSteps.s ?_;exact CSteps.nil) ZbI rfl ZbF ⟨rfl,trivial⟩ [.row 5 1 (Da (w)),.pin [],.var 26 ((Eb k).map .d)] rfl ?_;refine Yn<|BV ?_
 exact Zbi
theorem A5K(c:Clm)(h:ClW c):Wb 110 (AP (EE c)) (Ii c):=Wb.intro λb F=>by
 have V:Ii c=Bo c.kind++(CB c.p++(Bo c.n++(Bo c.d++(Bo c.r++(Cs c.o++(Bf c.l++(Bv c.s.length++(c.s.flatMap Bo++(EQ c.b))))))))):=by simp only[Ii,Br,Yaf]
 rw[V]at F;simp only[Yaa]at F;have f:=LS c.s LM;obtain⟨Y,R⟩:∃B,B=b++Bo c.kind:=⟨_,rfl⟩;have K:Y.length=b.length+(Bo c.kind).length:=by rw[R,Yaa]
 have A:=FO c.kind h.kind b ZbD;rw[<-R]at A;obtain⟨M,e⟩:∃B,B=Y++CB c.p:=⟨_,rfl⟩;have J:M.length=Y.length+(CB c.p).length:=by rw[e,Yaa]
 have C:=Vm c.p h.p Y ZbD;rw[<-e]at C;obtain⟨w,H⟩:∃B,B=M++Bo c.n:=⟨_,rfl⟩;have z:w.length=M.length+(Bo c.n).length:=by rw[H,Yaa]
 have L:=FO c.n h.n M ZbD;rw[<-H]at L;obtain⟨B4,l⟩:∃B,B=w++Bo c.d:=⟨_,rfl⟩;have T:B4.length=w.length+(Bo c.d).length:=by rw[l,Yaa]
 have S:=FO c.d h.d w ZbD;rw[<-l]at S;obtain⟨X,m⟩:∃B,B=B4++Bo c.r:=⟨_,rfl⟩;have t:X.length=B4.length+(Bo c.r).length:=by rw[m,Yaa]
 have n:=FO c.r h.r B4 ZbD;rw[<-m]at n;obtain⟨a,p⟩:∃B,B=X++Cs c.o:=⟨_,rfl⟩;have x:a.length=X.length+(Cs c.o).length:=by rw[p,Yaa]
 have G:=Xx c.o h.o X ZbD;rw[<-p]at G;obtain⟨N,q⟩:∃B,B=a++Bf c.l:=⟨_,rfl⟩;have U:N.length=a.length+(Bf c.l).length:=by rw[q,Yaa]
 have g:=JH c.l h.l a ZbD;rw[<-q]at g;obtain⟨B8,r⟩:∃B,B=N++Bv c.s.length:=⟨_,rfl⟩;have xa:B8.length=N.length+(Bv c.s.length).length:=by rw[r,Yaa]
 have y:=GM c.s.length ZbD N ZbD;rw[<-r]at y;obtain⟨Z,s⟩:∃B,B=B8++c.s.flatMap Bo:=⟨_,rfl⟩;have xb:Z.length=B8.length+(c.s.flatMap Bo).length:=by rw[s,Yaa]
 obtain⟨i,j⟩:∃B,B=Z++EQ c.b:=⟨_,rfl⟩;have xc:i.length=Z.length+(EQ c.b).length:=by rw[j,Yaa]
 have W:=YG c.b h.b Z ZbD;rw[<-j]at W;have P:b++Ii c=i:=by rw[j,s,r,q,p,m,l,H,e,R];simp only[Ii,Br,Yaf]
 refine Dn func110 rfl (Ag func110 ZbI ZbI) rfl λv=>?_;rw[ntmps110];intro O;apply Y1;refine Bx ?_;refine Wa<|Y0<|Ai ?_
 refine Fi 0 5 1 (λo=>Da (([b,Y,M]:List (List Nat)).getD o [])) 2 (some 0) (λk=>([3,6]:List Nat).getD k 0) [.o 0,.q (.ptr 2 0),.q (.d (ex (.int .i64 c.kind))),.t 0,.q (.ptr 2 1),.q (.d (KD c.p)),.t 1,.o 2] [[],[],[(7,1)],[(6,0),(8,2)],[],[(10,4)],[(9,3),(11,5)],[(12,6)]] [(3,.ptr 2 0)] [(0,.own 0),(3,.ptr 2 0)] ZbI rfl ⟨rfl,trivial⟩ (λ_ h=>by cases h;rfl) (by refine CSteps.s ?_;refine EU ?_;refine EU ?_;refine On (A) ?_;refine EU ?_;refine EU ?_;refine On (C) ?_;refine CSteps.s ?_;exact CSteps.nil) ZbI rfl ZbF ⟨rfl,rfl,trivial⟩ [.row 5 1 (Da (M)),.pin [],.var 34 ((EE c).map .d)] rfl ?_;refine Yn<|Ai ?_
 refine Fi 0 5 1 (λo=>Da (([M,w,B4,X,a,N]:List (List Nat)).getD o [])) 5 (some 0) (λk=>([3,6,9,12,15]:List Nat).getD k 0) [.o 0,.q (.ptr 2 2),.q (.d (ex (.int .i64 c.n))),.t 0,.q (.ptr 2 3),.q (.d (ex (.int .i64 c.d))),.t 1,.q (.ptr 2 4),.q (.d (ex (.int .i64 c.r))),.t 2,.q (.ptr 2 5),.q (.d (Ep c.o)),.t 3,.q (.ptr 2 6),.q (.d (Ib c.l)),.t 4,.o 5] [[],[],[(14,1)],[(13,0),(15,2)],[],[(17,4)],[(16,3),(18,5)],[],[(20,7)],[(19,6),(21,8)],[],[(23,10)],[(22,9),(24,11)],[],[(26,13)],[(25,12),(27,14)],[(28,15)]] [(3,.ptr 2 0)] [(0,.own 0),(3,.ptr 2 0)] ZbI rfl ⟨rfl,trivial⟩ (λ_ h=>by cases h;rfl) (by refine CSteps.s ?_;refine EU ?_;refine EU ?_;refine On (L) ?_;refine EU ?_;refine EU ?_;refine On (S) ?_;refine EU ?_;refine EU ?_;refine On (n) ?_;refine EU ?_;refine EU ?_;refine On (G) ?_;refine EU ?_;refine EU ?_;refine On (g) ?_;refine CSteps.s ?_;exact CSteps.nil) ZbI rfl ZbF ⟨rfl,rfl,trivial⟩ [.row 5 1 (Da (N)),.pin [],.var 34 ((EE c).map .d)] rfl ?_;refine Yn<|Y1<|Wm ?_;refine Wq AB ?_;refine Wq Ar ?_;refine Wq (Bi rfl (Aa rfl)) ?_;refine Wq (AO (r:=((c.s.length:Nat):Int)) (ao rfl) (Aa rfl) (Aa rfl) (ET ZbD)) ?_
 refine Cv [0] (y) rfl ZbF rfl ZbC ZbA ZbH Zby rfl ?_;rintro _ _ ⟨rfl,rfl⟩;refine Kr ?_;refine Wa<|Y0<|Ai<|Y1<|Wa<|Y0<|AWp.block ?_
 refine AC (λu d=>∃k,k<=c.s.length/\u=c.s.length-k/\d=⟨[(0,.own 0),(3,.ptr 2 0),(5,.d (ex (.int .i64 (k:Nat))))],[.row 5 1 (Da (B8++(c.s.take k).flatMap Bo)),.pin [],.var 34 ((EE c).map .d)]⟩) ?le ⟨0,by omega,rfl,rfl⟩ ?round
 case le=>exact Ac ZbZ ZcO
 case round=>
  rintro u _ ⟨k,E,rfl,rfl⟩;by_cases Q:k<c.s.length
  .have E:=Df Bo Q
   have I:=FO (c.s.getD k default) (h.s _ (BC Q)) (B8++(c.s.take k).flatMap Bo) ZbX;refine Ai<|Y1<|Wm ?_;refine Wq AB ?_;refine Wq Ar ?_;refine Wq (Bi rfl (Aa rfl)) ?_;refine Wq Bb ?_;refine Y0<|Ct<|Ys<|Ai<|AWp.block<|AWp.region<|Wm ?_;refine Wq AB ?_;refine Wq Ar ?_;refine Wm ?_;refine Wq (CE (k:=k) rfl (ao rfl) (Aa rfl) (Aa rfl) rfl Q) ?_;refine Wq AT ?_
   refine Cv [0] (I) rfl ZbF rfl ZbC ZbA ZbH Zby rfl ?_;rintro _ _ ⟨rfl,rfl⟩;refine Kr ?_;refine Wa<|AWl.nil<|Bh<|Yn<|AWp.region<|Wm ?_;refine Wq CJ ?_;refine Wa<|AWl.nil ?_
   refine Ah (c.s.length-(k+1)) ZbD ⟨k+1,by omega,rfl,rfl⟩ ?_;exact Ac ZbZ (by exact HpLe.cons (OwLe.row (by rw[Ck Bo Q,<-Yaf]))<|HpLe.cons (Ak rfl)<|HpLe.cons (Ad rfl)<|HpLe.nil)
  .obtain rfl:k=c.s.length:=by omega
   rw[YaV,<-s];refine Ai<|Y1<|Wm ?_;refine Wq AB ?_;refine Wq Ar ?_;refine Wq (Bi rfl (Aa rfl)) ?_;refine Wq AN ?_;refine Y0<|Cf<|Cg<|BE<|BR<|BH<|Yn<|Y1<|Wm ?_;refine Wq AB ?_;refine Wq Ar ?_
   refine Cv [0] (W) rfl ZbF rfl ZbC ZbA ZbH Zby rfl ?_;rintro _ _ ⟨rfl,rfl⟩;refine Kr ?_;refine Wa<|Y0<|BV ?_
   exact Zbi
theorem Zs{k:Nat}(h:k<8):CellAt (DD uK) (7+k*1) (ex (.int .i64 (uK.r.l k))):=by
 rcases lt8 h with rfl | rfl | rfl | rfl | rfl | rfl | rfl | rfl<;>exact⟨(by decide:_<28),rfl⟩
theorem Zr{k:Nat}(h:k<8):CellAt (DD uK) (16+k*1) (GY (uK.r.r k)):=by
 rcases lt8 h with rfl | rfl | rfl | rfl | rfl | rfl | rfl | rfl<;>exact⟨(by decide:_<28),rfl⟩
theorem A15{f:Nat->RQ}(h:n<8):PartAt ((Mm f).drop (n*4)) 0 4 (Hh (f n)):=by
 have A:=Dm (c:=λi=>Hh (f i)) (n:=4) (λ_=>rfl) h;have J:(GL λi=>Hh (f i)).length=32:=Ev (n:=4) (λ_=>rfl);exact⟨by simp only[Mm,YbQ,J];omega,A.eq⟩
theorem A7S(e:Crt)(h:CrW e):Wb 109 (AP (DD e)) (JU e):=Wb.intro λb F=>by
 have V:JU e=Bo e.n++(Bf e.cof++(Bf e.g++(Cs e.o++(BJ e.c++(BJ e.q++(BJ e.s++(Gi e.r.l++(Ge e.r.q++(Jt Ge e.r.r++(Bv e.a.length++(e.a.flatMap GC++(Bv e.sq.length++(e.sq.flatMap JD++(Bv e.x.length++(e.x.flatMap Pz++(EQ e.b)))))))))))))))):=by simp only[JU,Js,Br,Yaf]
 rw[V]at F;simp only[Yaa]at F;have xM:=LS e.a OT;have xN:=LS e.sq ZO;have W:e.x.length<=(e.x.flatMap Pz).length:=LS e.x (Id IY);obtain⟨Z,m⟩:∃B,B=b++Bo e.n:=⟨_,rfl⟩;have N:Z.length=b.length+(Bo e.n).length:=by rw[m,Yaa]
 have A:=FO e.n h.n b ZbD;rw[<-m]at A;obtain⟨Y,xa⟩:∃B,B=Z++Bf e.cof:=⟨_,rfl⟩;have K:Y.length=Z.length+(Bf e.cof).length:=by rw[xa,Yaa]
 have C:=JH e.cof h.cof Z ZbD;rw[<-xa]at C;obtain⟨w,H⟩:∃B,B=Y++Bf e.g:=⟨_,rfl⟩;have z:w.length=Y.length+(Bf e.g).length:=by rw[H,Yaa]
 have L:=JH e.g h.g Y ZbD;rw[<-H]at L;obtain⟨B4,xe⟩:∃B,B=w++Cs e.o:=⟨_,rfl⟩;have xl:B4.length=w.length+(Cs e.o).length:=by rw[xe,Yaa]
 have S:=Xx e.o h.o w ZbD;rw[<-xe]at S;obtain⟨T,xf⟩:∃B,B=B4++BJ e.c:=⟨_,rfl⟩;have xk:T.length=B4.length+(BJ e.c).length:=by rw[xf,Yaa]
 have n:=QY e.c h.c B4 ZbD;rw[<-xf]at n;obtain⟨B6,xg⟩:∃B,B=T++BJ e.q:=⟨_,rfl⟩;have xn:B6.length=T.length+(BJ e.q).length:=by rw[xg,Yaa]
 have G:=QY e.q h.q T ZbD;rw[<-xg]at G;obtain⟨c,xh⟩:∃B,B=B6++BJ e.s:=⟨_,rfl⟩;have xo:c.length=B6.length+(BJ e.s).length:=by rw[xh,Yaa]
 have g:=QY e.s h.s B6 ZbD;rw[<-xh]at g;obtain⟨B8,xi⟩:∃B,B=c++Gi e.r.l:=⟨_,rfl⟩;have xp:B8.length=c.length+(Gi e.r.l).length:=by rw[xi,Yaa]
 obtain⟨r,xj⟩:∃B,B=B8++Ge e.r.q:=⟨_,rfl⟩;have xq:r.length=B8.length+(Ge e.r.q).length:=by rw[xj,Yaa]
 have O:=WU e.r.q h.r.q B8 ZbD;rw[<-xj]at O;obtain⟨xb,xd⟩:∃B,B=r++Jt Ge e.r.r:=⟨_,rfl⟩;have xB:xb.length=r.length+(Jt Ge e.r.r).length:=by rw[xd,Yaa]
 obtain⟨x,xu⟩:∃B,B=xb++Bv e.a.length:=⟨_,rfl⟩;have xF:x.length=xb.length+(Bv e.a.length).length:=by rw[xu,Yaa]
 have s:=GM e.a.length ZbD xb ZbD;rw[<-xu]at s;obtain⟨xr,xv⟩:∃B,B=x++e.a.flatMap GC:=⟨_,rfl⟩;have xG:xr.length=x.length+(e.a.flatMap GC).length:=by rw[xv,Yaa]
 obtain⟨y,xw⟩:∃B,B=xr++Bv e.sq.length:=⟨_,rfl⟩;have xH:y.length=xr.length+(Bv e.sq.length).length:=by rw[xw,Yaa]
 have q:=GM e.sq.length ZbD xr ZbD;rw[<-xw]at q;obtain⟨xs,xx⟩:∃B,B=y++e.sq.flatMap JD:=⟨_,rfl⟩;have xI:xs.length=y.length+(e.sq.flatMap JD).length:=by rw[xx,Yaa]
 obtain⟨xc,xy⟩:∃B,B=xs++Bv e.x.length:=⟨_,rfl⟩;have xJ:xc.length=xs.length+(Bv e.x.length).length:=by rw[xy,Yaa]
 have xD:=GM e.x.length ZbD xs ZbD;rw[<-xy]at xD;obtain⟨xt,xz⟩:∃B,B=xc++e.x.flatMap Pz:=⟨_,rfl⟩;have xK:xt.length=xc.length+(e.x.flatMap Pz).length:=by rw[xz,Yaa]
 obtain⟨xC,xA⟩:∃B,B=xt++EQ e.b:=⟨_,rfl⟩;have xL:xC.length=xt.length+(EQ e.b).length:=by rw[xA,Yaa]
 have xE:=YG e.b h.b xt ZbD;rw[<-xA]at xE;have P:b++JU e=xC:=by rw[xA,xz,xy,xx,xw,xv,xu,xd,xj,xi,xh,xg,xf,xe,H,xa,m];simp only[JU,Js,Br,Yaf]
 refine Dn func109 rfl (Ag func109 ZbI ZbI) rfl λv=>?_;rw[ntmps109];intro X;apply Y1;refine Bx ?_;refine Wa<|Y0<|Ai ?_
 refine Fi 0 5 1 (λo=>Da (([b,Z,Y,w,B4]:List (List Nat)).getD o [])) 4 (some 0) (λk=>([3,6,9,12]:List Nat).getD k 0) [.o 0,.q (.ptr 2 0),.q (.d (ex (.int .i64 e.n))),.t 0,.q (.ptr 2 1),.q (.d (Ib e.cof)),.t 1,.q (.ptr 2 2),.q (.d (Ib e.g)),.t 2,.q (.ptr 2 3),.q (.d (Ep e.o)),.t 3,.o 4] [[],[],[(12,1)],[(11,0),(13,2)],[],[(15,4)],[(14,3),(16,5)],[],[(18,7)],[(17,6),(19,8)],[],[(21,10)],[(20,9),(22,11)],[(23,12)]] [(3,.ptr 2 0)] [(0,.own 0),(3,.ptr 2 0)] ZbI rfl ⟨rfl,trivial⟩ (λ_ h=>by cases h;rfl) (by refine CSteps.s ?_;refine EU ?_;refine EU ?_;refine On (A) ?_;refine EU ?_;refine EU ?_;refine On (C) ?_;refine EU ?_;refine EU ?_;refine On (L) ?_;refine EU ?_;refine EU ?_;refine On (S) ?_;refine CSteps.s ?_;exact CSteps.nil) ZbI rfl ZbF ⟨rfl,rfl,trivial⟩ [.row 5 1 (Da (B4)),.pin [],.var 46 ((DD e).map .d)] rfl ?_;refine Yn<|Ai ?_
 refine Fi 0 5 1 (λo=>Da (([B4,T,B6,c]:List (List Nat)).getD o [])) 3 (some 0) (λk=>([3,6,9]:List Nat).getD k 0) [.o 0,.q (.ptr 2 4),.q (.d (SY e.c)),.t 0,.q (.ptr 2 5),.q (.d (SY e.q)),.t 1,.q (.ptr 2 6),.q (.d (SY e.s)),.t 2,.o 3] [[],[],[(25,1)],[(24,0),(26,2)],[],[(28,4)],[(27,3),(29,5)],[],[(31,7)],[(30,6),(32,8)],[(33,9)]] [(3,.ptr 2 0)] [(0,.own 0),(3,.ptr 2 0)] ZbI rfl ⟨rfl,trivial⟩ (λ_ h=>by cases h;rfl) (by refine CSteps.s ?_;refine EU ?_;refine EU ?_;refine On (n) ?_;refine EU ?_;refine EU ?_;refine On (G) ?_;refine EU ?_;refine EU ?_;refine On (g) ?_;refine CSteps.s ?_;exact CSteps.nil) ZbI rfl ZbF ⟨rfl,rfl,trivial⟩ [.row 5 1 (Da (c)),.pin [],.var 46 ((DD e).map .d)] rfl ?_;refine Yn<|Ai<|Y1<|Wa<|Y0<|AWp.block ?_
 refine AC (λu d=>∃k,k<=8/\u=8-k/\d=⟨[(0,.own 0),(3,.ptr 2 0),(5,.d (ex (.int .i64 (k:Nat))))],[.row 5 1 (Da (c++DB (Bo) e.r.l k)),.pin [],.var 46 ((DD e).map .d)]⟩) ?le ⟨0,by omega,rfl,rfl⟩ ?round
 case le=>exact Ac ZbZ ZcW
 case round=>
  rintro u _ ⟨k,E,rfl,rfl⟩;by_cases Q:k<8
  .have E:=Gl (Bo) e.r.l Q
   have l:(DB (Bo) e.r.l 8).length=(Gi e.r.l).length:=rfl;have I:=FO (e.r.l k) (h.r.l k Q) (c++DB (Bo) e.r.l k) ZbX;refine Ai<|Y1<|Wm ?_;refine Wq Bb ?_;refine Y0<|Ct<|Ys<|Ai<|AWp.block<|AWp.region<|Wm<|Wm ?_;refine Wq AB ?_;refine Wq AB ?_;refine Wq (MT (k:=k) (ao rfl) (ao rfl) (Aa rfl) (Aa rfl) Q) ?_;refine Wq (Mg (ao rfl) rfl (Aa rfl) rfl (Zs Q)) ?_
   exact Zbj
  .obtain rfl:k=8:=by omega
   rw[show c++DB (Bo) e.r.l 8=B8 from xi.symm];refine Ai<|Y1<|Wm ?_;refine Wq AN ?_;refine Y0<|Cf<|Cg<|BE<|BR<|BH<|Yn<|Y1<|Wm ?_;refine Wq AB ?_;refine Wq AB ?_;refine Wq Ar ?_
   refine Cv [0] (O) rfl ZbF rfl ZbC ZbA ZbH Zby rfl ?_;rintro _ _ ⟨rfl,rfl⟩;refine Kr ?_;refine Bj (σ':=⟨[(3,.ptr 2 0),(49,.own 0)],[.row 5 1 (Da (r)),.pin [],.var 46 ((DD e).map .d)]⟩) ?_ ?_
   .exact Ac Zdg ZcX
   refine Wa<|Y0<|Ai<|Y1<|Wa<|Y0<|AWp.block ?_
   refine AC (λu d=>∃k,k<=8/\u=8-k/\d=⟨[(0,.own 0),(3,.ptr 2 0),(6,.d (ex (.int .i64 (k:Nat))))],[.row 5 1 (Da (r++DB (Ge) e.r.r k)),.pin [],.var 46 ((DD e).map .d)]⟩) ?le ⟨0,by omega,rfl,rfl⟩ ?round
   case le=>exact Ac ZbZ ZcW
   case round=>
    rintro u _ ⟨k,E,rfl,rfl⟩;by_cases Q:k<8
    .have E:=Gl (Ge) e.r.r Q
     have l:(DB (Ge) e.r.r 8).length=(Jt Ge e.r.r).length:=rfl;have I:=WU (e.r.r k) (h.r.r k Q) (r++DB (Ge) e.r.r k) ZbX;refine Ai<|Y1<|Wm ?_;refine Wq Bb ?_;refine Y0<|Ct<|Ys<|Ai<|AWp.block<|AWp.region<|Wm<|Wm ?_;refine Wq AB ?_;refine Wq AB ?_;refine Wq (MT (k:=k) (ao rfl) (ao rfl) (Aa rfl) (Aa rfl) Q) ?_;refine Wq (Mg (ao rfl) rfl (Aa rfl) rfl (Zr Q)) ?_
     exact Zbj
    .obtain rfl:k=8:=by omega
     rw[show r++DB (Ge) e.r.r 8=xb from xd.symm];refine Ai<|Y1<|Wm ?_;refine Wq AN ?_;refine Y0<|Cf<|Cg<|BE<|BR<|BH<|Yn<|Y1<|Wm ?_;refine Wq AB ?_;refine Wq Ar ?_;refine Wq (Bi rfl (Aa rfl)) ?_;refine Wq (AO (r:=((e.a.length:Nat):Int)) (ao rfl) (Aa rfl) (Aa rfl) (ET ZbD)) ?_
     refine Cv [0] (s) rfl ZbF rfl ZbC ZbA ZbH Zby rfl ?_;rintro _ _ ⟨rfl,rfl⟩;refine Kr ?_;refine Bj (σ':=⟨[(3,.ptr 2 0),(66,.own 0)],[.row 5 1 (Da (x)),.pin [],.var 46 ((DD e).map .d)]⟩) ?_ ?_
     .exact Ac Zdg ZcX
     refine Wa<|Y0<|Ai<|Y1<|Wa<|Y0<|AWp.block ?_
     refine AC (λu d=>∃k,k<=e.a.length/\u=e.a.length-k/\d=⟨[(0,.own 0),(3,.ptr 2 0),(7,.d (ex (.int .i64 (k:Nat))))],[.row 5 1 (Da (x++(e.a.take k).flatMap GC)),.pin [],.var 46 ((DD e).map .d)]⟩) ?le ⟨0,by omega,rfl,rfl⟩ ?round
     case le=>exact Ac ZbZ ZcO
     case round=>
      rintro u _ ⟨k,E,rfl,rfl⟩;by_cases Q:k<e.a.length
      .have E:=Df GC Q
       obtain⟨t,M⟩:∃t,t=e.a.getD k default:=⟨_,rfl⟩;have J:=h.a _ (BC Q);rw[<-M]at E J;have i:(GC t).length=(CC t.1).length+(CC t.2).length:=by rw[GC,Yaa]
       have g0:=EW t.1 J.1 (x++(e.a.take k).flatMap GC) ZbX;have U:=EW t.2 J.2 (x++(e.a.take k).flatMap GC++CC t.1) ZbX;refine Ai<|Y1<|Wm ?_;refine Wq AB ?_;refine Wq Ar ?_;refine Wq (Bi rfl (Aa rfl)) ?_;refine Wq Bb ?_;refine Y0<|Ct<|Ys<|Ai<|AWp.block ?_
       refine Fi 0 5 1 (λo=>Da (([x++(e.a.take k).flatMap GC,x++(e.a.take k).flatMap GC++CC t.1,x++(e.a.take k).flatMap GC++CC t.1++CC t.2]:List (List Nat)).getD o [])) 2 (some 0) (λk=>([7,14]:List Nat).getD k 0) [.o 0,.q (.ptr 2 24),.q (.d (VG e.a)),.q (.d (ex (.int .i64 (k:Nat)))),.q (.d (Fg 129 (Jf t))),.q (.d (Fg 129 ((Jf t).drop 0))),.q (.d (AP (Hh t.1))),.t 0,.q (.ptr 2 24),.q (.d (VG e.a)),.q (.d (ex (.int .i64 (k:Nat)))),.q (.d (Fg 129 (Jf t))),.q (.d (Fg 129 ((Jf t).drop 4))),.q (.d (AP (Hh t.2))),.t 1,.o 2] [[],[],[(75,1)],[],[(76,2),(77,3)],[(78,4)],[(79,5)],[(74,0),(80,6)],[],[(82,8)],[],[(83,9),(84,10)],[(85,11)],[(86,12)],[(81,7),(87,13)],[(88,14)]] [(3,.ptr 2 0),(7,.d (ex (.int .i64 (k:Nat))))] [(0,.own 0),(3,.ptr 2 0),(7,.d (ex (.int .i64 (k:Nat))))] ZbI rfl ⟨rfl,rfl,trivial⟩ (λ_ h=>by cases h;rfl) ZcF ZbI rfl ZbF ⟨rfl,rfl,rfl,trivial⟩ [.row 5 1 (Da (x++(e.a.take k).flatMap GC++CC t.1++CC t.2)),.pin [],.var 46 ((DD e).map .d)] rfl ?_;refine Bh<|Yn<|AWp.region<|Wm ?_;refine Wq CJ ?_;refine Wa<|AWl.nil ?_
       refine Ah (e.a.length-(k+1)) ZbD ⟨k+1,by omega,rfl,rfl⟩ ?_;exact Ac ZbZ (by(refine HpLe.cons (OwLe.row (by rw[Ck GC Q,<-M,GC];simp only[Yaf])) ?_);exact HpLe.cons (Ak rfl)<|HpLe.cons (Ad rfl)<|HpLe.nil)
      .obtain rfl:k=e.a.length:=by omega
       rw[YaV,<-xv];refine Ai<|Y1<|Wm ?_;refine Wq AB ?_;refine Wq Ar ?_;refine Wq (Bi rfl (Aa rfl)) ?_;refine Wq AN ?_;refine Y0<|Cf<|Cg<|BE<|BR<|BH<|Yn<|Y1<|Wm ?_;refine Wq AB ?_;refine Wq Ar ?_;refine Wq (Bi rfl (Aa rfl)) ?_;refine Wq (AO (r:=((e.sq.length:Nat):Int)) (ao rfl) (Aa rfl) (Aa rfl) (ET ZbD)) ?_
       refine Cv [0] (q) rfl ZbF rfl ZbC ZbA ZbH Zby rfl ?_;rintro _ _ ⟨rfl,rfl⟩;refine Kr ?_;refine Bj (σ':=⟨[(3,.ptr 2 0),(94,.own 0)],[.row 5 1 (Da (y)),.pin [],.var 46 ((DD e).map .d)]⟩) ?_ ?_
       .exact Ac Zdg ZcX
       refine Wa<|Y0<|Ai<|Y1<|Wa<|Y0<|AWp.block ?_
       refine AC (λu d=>∃k,k<=e.sq.length/\u=e.sq.length-k/\d=⟨[(0,.own 0),(3,.ptr 2 0),(8,.d (ex (.int .i64 (k:Nat))))],[.row 5 1 (Da (y++(e.sq.take k).flatMap JD)),.pin [],.var 46 ((DD e).map .d)]⟩) ?le ⟨0,by omega,rfl,rfl⟩ ?round
       case le=>exact Ac ZbZ ZcO
       case round=>
        rintro u _ ⟨k,E,rfl,rfl⟩;by_cases Q:k<e.sq.length
        .have E:=Df JD Q
         obtain⟨t,M⟩:∃t,t=e.sq.getD k default:=⟨_,rfl⟩;have J:=h.sq _ (BC Q);rw[<-M]at E J;have i:(JD t).length=(CC t.1).length+(CB t.2).length:=by rw[JD,Yaa]
         have g0:=EW t.1 J.1 (y++(e.sq.take k).flatMap JD) ZbX;have U:=Vm t.2 J.2 (y++(e.sq.take k).flatMap JD++CC t.1) ZbX;refine Ai<|Y1<|Wm ?_;refine Wq AB ?_;refine Wq Ar ?_;refine Wq (Bi rfl (Aa rfl)) ?_;refine Wq Bb ?_;refine Y0<|Ct<|Ys<|Ai<|AWp.block ?_
         refine Fi 0 5 1 (λo=>Da (([y++(e.sq.take k).flatMap JD,y++(e.sq.take k).flatMap JD++CC t.1,y++(e.sq.take k).flatMap JD++CC t.1++CB t.2]:List (List Nat)).getD o [])) 2 (some 0) (λk=>([7,14]:List Nat).getD k 0) [.o 0,.q (.ptr 2 25),.q (.d (UR e.sq)),.q (.d (ex (.int .i64 (k:Nat)))),.q (.d (Fg 184 (Jq t))),.q (.d (Fg 184 ((Jq t).drop 0))),.q (.d (AP (Hh t.1))),.t 0,.q (.ptr 2 25),.q (.d (UR e.sq)),.q (.d (ex (.int .i64 (k:Nat)))),.q (.d (Fg 184 (Jq t))),.q (.d (Fg 184 ((Jq t).drop 4))),.q (.d (KD t.2)),.t 1,.o 2] [[],[],[(103,1)],[],[(104,2),(105,3)],[(106,4)],[(107,5)],[(102,0),(108,6)],[],[(110,8)],[],[(111,9),(112,10)],[(113,11)],[(114,12)],[(109,7),(115,13)],[(116,14)]] [(3,.ptr 2 0),(8,.d (ex (.int .i64 (k:Nat))))] [(0,.own 0),(3,.ptr 2 0),(8,.d (ex (.int .i64 (k:Nat))))] ZbI rfl ⟨rfl,rfl,trivial⟩ (λ_ h=>by cases h;rfl) ZcF ZbI rfl ZbF ⟨rfl,rfl,rfl,trivial⟩ [.row 5 1 (Da (y++(e.sq.take k).flatMap JD++CC t.1++CB t.2)),.pin [],.var 46 ((DD e).map .d)] rfl ?_;refine Bh<|Yn<|AWp.region<|Wm ?_;refine Wq CJ ?_;refine Wa<|AWl.nil ?_
         refine Ah (e.sq.length-(k+1)) ZbD ⟨k+1,by omega,rfl,rfl⟩ ?_;exact Ac ZbZ (by(refine HpLe.cons (OwLe.row (by rw[Ck JD Q,<-M,JD];simp only[Yaf])) ?_);exact HpLe.cons (Ak rfl)<|HpLe.cons (Ad rfl)<|HpLe.nil)
        .obtain rfl:k=e.sq.length:=by omega
         rw[YaV,<-xx];refine Ai<|Y1<|Wm ?_;refine Wq AB ?_;refine Wq Ar ?_;refine Wq (Bi rfl (Aa rfl)) ?_;refine Wq AN ?_;refine Y0<|Cf<|Cg<|BE<|BR<|BH<|Yn<|Y1<|Wm ?_;refine Wq AB ?_;refine Wq Ar ?_;refine Wq (Bi rfl (Aa rfl)) ?_;refine Wq (AO (r:=((e.x.length:Nat):Int)) (ao rfl) (Aa rfl) (Aa rfl) (ET ZbD)) ?_
         refine Cv [0] (xD) rfl ZbF rfl ZbC ZbA ZbH Zby rfl ?_;rintro _ _ ⟨rfl,rfl⟩;refine Kr ?_;refine Bj (σ':=⟨[(3,.ptr 2 0),(122,.own 0)],[.row 5 1 (Da (xc)),.pin [],.var 46 ((DD e).map .d)]⟩) ?_ ?_
         .exact Ac Zdg ZcX
         refine Wa<|Y0<|Ai<|Y1<|Wa<|Y0<|AWp.block ?_
         refine AC (λu d=>∃k,k<=e.x.length/\u=e.x.length-k/\d=⟨[(0,.own 0),(3,.ptr 2 0),(9,.d (ex (.int .i64 (k:Nat))))],[.row 5 1 (Da (xc++(e.x.take k).flatMap Pz)),.pin [],.var 46 ((DD e).map .d)]⟩) ?le ⟨0,by omega,rfl,rfl⟩ ?round
         case le=>exact Ac ZbZ ZcO
         case round=>
          rintro u _ ⟨k,E,rfl,rfl⟩;by_cases Q:k<e.x.length
          .have E:=Df Pz Q
           obtain⟨t,M⟩:∃t,t=e.x.getD k default:=⟨_,rfl⟩;have J:=h.x _ (BC Q);rw[<-M]at E J;have R:(Pz t).length=(DB CC t 8).length:=rfl;refine Ai<|Y1<|Wm ?_;refine Wq AB ?_;refine Wq Ar ?_;refine Wq (Bi rfl (Aa rfl)) ?_;refine Wq Bb ?_;refine Y0<|Ct<|Ys<|Ai<|AWp.block<|Y1<|Wa<|Y0<|AWp.block ?_
           refine AC (λu d=>∃j,j<=8/\u=8-j/\d=⟨[(0,.own 0),(3,.ptr 2 0),(9,.d (ex (.int .i64 (k:Nat)))),(10,.d (ex (.int .i64 (j:Nat))))],[.row 5 1 (Da (xc++(e.x.take k).flatMap Pz++DB CC t j)),.pin [],.var 46 ((DD e).map .d)]⟩) ?lej ⟨0,by omega,rfl,rfl⟩ ?roundj
           case lej=>exact Ac Zev ZcW
           case roundj=>
            rintro u _ ⟨j,a,rfl,rfl⟩;by_cases f:j<8
            .have p:=Gl CC t f
             have xm:=EW (t j) (J j f) (xc++(e.x.take k).flatMap Pz++DB CC t j) ZbX;refine Ai<|Y1<|Wm ?_;refine Wq Bb ?_;refine Y0<|Ct<|Ys<|Ai<|AWp.block<|AWp.region<|Wm ?_;refine Wq AB ?_;refine Wq Ar ?_;refine Wm<|Wm ?_;refine Wq (IM (k:=k) rfl (ao rfl) (Aa rfl) (Aa rfl) rfl Q M) ?_;refine Wq (Lu (k:=j) (ao rfl) (ao rfl) (Aa rfl) (Aa rfl) f) ?_;refine Wq (WD (ao rfl) (Aa rfl) rfl (A15 f)) ?_
             refine Cv [0] (xm) rfl ZbF rfl ZbC ZbA ZbH Zby rfl ?_;rintro _ _ ⟨rfl,rfl⟩;refine Kr ?_;refine Wa<|AWl.nil<|Bh<|Yn<|AWp.region<|Wm ?_;refine Wq CJ ?_;refine Wa<|AWl.nil ?_
             refine Ah (8-(j+1)) ZbD ⟨j+1,by omega,rfl,rfl⟩ ?_;exact Ac Zev ZdR
            .obtain rfl:j=8:=by omega
             refine Ai<|Y1<|Wm ?_;refine Wq AN ?_;refine Y0<|Cf<|Cg<|BE<|BR<|BH<|Bh<|Yn<|AWp.region<|Wm ?_;refine Wq CJ ?_;refine Wa<|AWl.nil ?_
             refine Ah (e.x.length-(k+1)) ZbD ⟨k+1,by omega,rfl,rfl⟩ ?_;exact Ac ZbZ (by(refine HpLe.cons (OwLe.row (by rw[Ck Pz Q,<-M,<-Yaf];rfl)) ?_);exact HpLe.cons (Ak rfl)<|HpLe.cons (Ad rfl)<|HpLe.nil)
          .obtain rfl:k=e.x.length:=by omega
           rw[YaV,<-xz];refine Ai<|Y1<|Wm ?_;refine Wq AB ?_;refine Wq Ar ?_;refine Wq (Bi rfl (Aa rfl)) ?_;refine Wq AN ?_;refine Y0<|Cf<|Cg<|BE<|BR<|BH<|Yn<|Y1<|Wm ?_;refine Wq AB ?_;refine Wq Ar ?_
           refine Cv [0] (xE) rfl ZbF rfl ZbC ZbA ZbH Zby rfl ?_;rintro _ _ ⟨rfl,rfl⟩;refine Kr ?_;refine Wa<|Y0<|BV ?_
           exact Zbi
theorem A26(f:Fct)(h:FW f)(J:(ED f).length<=1000000000000):Abs prog 47 [AP (El f)] (GX 5 (ED f)):=by
 simp only[ED,Yaa]at J;have c:=A7J f.k h.k [] Zip;have A:=A5K f.c h.c (FS f.k) ZbD;have B:=A7S f.e h.e (FS f.k++Ii f.c) ZdL;refine Ab func47 λv=>?_;rw[ntmps47];apply Y1;refine Bx ?_;refine Wa<|Y0<|Ai ?_
 refine A41 5 1 rfl rfl rfl ?_;refine Fi 1 5 1 (λo=>Da (([[],[],FS f.k,FS f.k++Ii f.c,FS f.k++Ii f.c++JU f.e]:List (List Nat)).getD o [])) 4 none (λk=>([0,3,6,9]:List Nat).getD k 0) [.t 0,.q (.ptr 0 0),.q (.d (AP (Eb f.k))),.t 1,.q (.ptr 0 3),.q (.d (AP (EE f.c))),.t 2,.q (.ptr 0 12),.q (.d (AP (DD f.e))),.t 3,.o 4] [[],[],[(4,1)],[(3,0),(5,2)],[],[(7,4)],[(6,3),(8,5)],[],[(10,7)],[(9,6),(11,8)],[(12,9)]] [(1,.ptr 0 0)] [(2,.own 1)] ZbI rfl ⟨rfl,trivial⟩ (λ_ h=>by cases h) (by refine CSteps.m (Aa rfl) (Aa rfl) rfl rfl rfl rfl ?_;refine EU ?_;refine EU ?_;refine On (c) ?_;refine EU ?_;refine EU ?_;refine On (A) ?_;refine EU ?_;refine EU ?_;refine On (B) ?_;refine CSteps.s ?_;exact CSteps.nil) ZbI rfl ZbF ⟨rfl,trivial⟩ [.var 48 ((El f).map .d),.row 5 1 (Da (FS f.k++Ii f.c++JU f.e))] rfl ?_;exact Zfu
theorem UE(f g:Fct)(t:FW f)(P:FW g)(C:(ED f).length<=1000000000000)(o:(ED g).length<=1000000000000):Abs prog 13 [AP (El f),AP (El g)] (ex (.bool (decide (ED f=ED g)))):=by
 have L:=A26 f t C;have E:=A26 g P o;obtain⟨⟨n,e,p⟩,c,x⟩:=f;obtain⟨⟨A,F,B⟩,l,N⟩:=g;refine Ab func13 λv=>?_;rw[ntmps13];refine Go ?_;refine Dy 7 ?_;refine DO ?_;refine⟨_,HStep.q rfl (HJ (l:=ED ⟨⟨n,e,p⟩,c,x⟩) rfl (Aa rfl) (Aa rfl) (Aa rfl)),?_⟩;refine DO ?_;refine Xq (HJ (l:=ED ⟨⟨A,F,B⟩,l,N⟩) rfl (Aa rfl) (Aa rfl) (Aa rfl)) ?_;refine⟨_,HStep.q rfl (A6i (b:=ED ⟨⟨n,e,p⟩,c,x⟩) (c:=ED ⟨⟨A,F,B⟩,l,N⟩) rfl rfl (OV _) (OV _)),?_⟩;exact ZgY
