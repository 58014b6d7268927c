/- Part 26. No condition. -/
import Derived.Test.YtcikkglcoeedlaaGreatDf18
import Derived.Test.YtcikkglcoeedlaaGreatDf21
import Derived.Test.YtcikkglcoeedlaaGreatDf23
set_option linter.unusedSimpArgs false
set_option linter.unusedVariables false
set_option maxRecDepth 100000
set_option maxHeartbeats 4000000
namespace Go.Proofs.YtcikkglcoeedlaaGreat
open _root_.Go.Proofs.Tryz
open Go.RowKit
variable{vH:Array Edge}{uL:Crt}{i:IntKind}{v:List D}{H:List Ow}{n b T m c k g:Nat}{x y:Operand}{vz:Operand->AV}{vQ:Option (Nat×Bool)}{vB:Option Tmp}{P:Program}{vG:String}{d:TypeDesc}{t U:TypeId}{z u:Value}
theorem Xj(s:Bool)(l:List Nat)(I:SmW l):Wb 221 (AQ [ex (.bool s),wD l]) (Hp s l):=Wb.intro λb E=>by
 have A:∀k,k<l.length->l.getD k 0<4294967296:=λk B=>I.1 _ (BF B);have n:=I.2;have Q:(Hp s l).length=(BA (2*l.length+(if s=true then 1 else 0))).length+(l.flatMap CA).length:=by rw[Hp,Yaa]
 have Z:2*l.length+(if s=true then 1 else 0)<18446744073709551616:=by split<;>omega
 obtain⟨N,q⟩:∃N,N=2*l.length+(if s=true then 1 else 0):=⟨_,rfl⟩;have W:Hp s l=BA N++l.flatMap CA:=by rw[q];rfl
 rw[<-q]at Z Q;have F:=GL N Z b ZbG;refine Dn func221 rfl (Ag func221 ZbK ZbK) rfl λw=>?_;rw[ntmps221];intro S;cases s
 .have C:N=2*l.length:=by rw [q];simp
  apply Y1;refine Bx ?_;refine Wa<|Y0<|Y1<|Wa<|Y0<|Ah<|Y1 ?_;refine Wq AC ?_;refine Wq Ao ?_;refine Y0<|Cf<|Ys<|Y1<|Wm ?_;refine Wq AC ?_;refine Wq Ao ?_;refine Wq QT ?_;refine Wq (AP (r:=((l.length:Nat):Int)) (ao rfl) (Aa rfl) (Aa rfl) (ES ZbG)) ?_;refine Wq (GV (r:=((2*l.length:Nat):Int)) (ao rfl) (ao rfl) ZcN) ?_;refine Wm ?_;refine Wq (DP (r:=((2*l.length:Nat):Int)) (ao rfl) (ao rfl) ZcN) ?_
  refine Cy [0] ((by rw[C]at F;exact F)) rfl ZbI rfl ZbF ZbD ZbL ZbB rfl ?_;rintro _ _ ⟨rfl,rfl⟩;refine ZfN ?_;refine AF (λv c=>∃k,k<=l.length/\v=l.length-k/\c=⟨[(0,.own 0),(3,.ptr 2 0),(6,.d (ex (.int .i64 (k:Nat))))],[.row 5 1 (CR (b++BA N++(l.take k).flatMap CA)),.pin [],.var 109 ([ex (.bool false),wD l].map .d)]⟩) ?le ⟨0,by omega,rfl,rfl⟩ ?round
  case le=>exact Zky
  case round=>
   exact Zbk
 .have C:N=2*l.length+1:=by rw [q];simp
  apply Y1;refine Bx ?_;refine Wa<|Y0<|Y1<|Wa<|Y0<|Ah<|Y1 ?_;refine Wq AC ?_;refine Wq Ao ?_;refine Y0<|Ct<|AWp.region<|Wa<|Y0<|Y1<|Wm ?_;refine Wq AC ?_;refine Wq Ao ?_;refine Wq QT ?_;refine Wq (AP (r:=((l.length:Nat):Int)) (ao rfl) (Aa rfl) (Aa rfl) (ES ZbG)) ?_;refine Wq (GV (r:=((2*l.length:Nat):Int)) (ao rfl) (ao rfl) ZcN) ?_;refine Wm ?_;refine Wq (DP (r:=((2*l.length+1:Nat):Int)) (ao rfl) (ao rfl) ZcN) ?_
  refine Cy [0] ((by rw[C]at F;exact F)) rfl ZbI rfl ZbF ZbD ZbL ZbB rfl ?_;rintro _ _ ⟨rfl,rfl⟩;refine ZfN ?_;refine AF (λv c=>∃k,k<=l.length/\v=l.length-k/\c=⟨[(0,.own 0),(3,.ptr 2 0),(6,.d (ex (.int .i64 (k:Nat))))],[.row 5 1 (CR (b++BA N++(l.take k).flatMap CA)),.pin [],.var 109 ([ex (.bool true),wD l].map .d)]⟩) ?le ⟨0,by omega,rfl,rfl⟩ ?round
  case le=>exact Zky
  case round=>
   exact Zbk
theorem EV(q:RQ)(B:QB q):Wb 125 (AQ (Hl q)) (CG q):=Wb.intro λb E=>by
 simp only[CG,Yaa]at E;have d:=Xj q.b q.l B.n b ZbG;have A:=Xj q.b' q.l' B.d (b++Hp q.b q.l) Zca;refine Dn func125 rfl (Ag func125 ZbK ZbK) rfl λw=>?_;rw[ntmps125];intro S;refine Go ?_;refine ER 0 5 1 (λn=>CR (([b,b++Hp q.b q.l,b++Hp q.b q.l++Hp q.b' q.l']:List (List Nat)).getD n [])) 2 (some 0) (λk=>([3,6]:List Nat).getD k 0) [.o 0,.q (.ptr 2 0),.q (.d (AQ [ex (.bool q.b),wD q.l])),.t 0,.q (.ptr 2 2),.q (.d (AQ [ex (.bool q.b'),wD q.l'])),.t 1,.o 2] [[],[],[(6,1)],[(5,0),(7,2)],[],[(9,4)],[(8,3),(10,5)],[(11,6)]] [(3,.ptr 2 0)] [(4,.own 0)] ZbK rfl ⟨rfl,trivial⟩ (λ_ h=>by cases h;rfl) (by refine CSteps.s ?_;refine ET ?_;refine ET ?_;refine Ox (d) ?_;refine ET ?_;refine ET ?_;refine Ox (A) ?_;refine CSteps.s ?_;exact CSteps.nil) ZbK rfl ZbI ⟨rfl,trivial⟩ [.row 5 1 (CR (b++Hp q.b q.l++Hp q.b' q.l')),.pin [],.var 111 ((Hl q).map .d)] rfl ?_;refine Go ?_
 first | refine Bs (RetsA.one rfl) rfl ?_ rfl | refine AW (RetsA.one rfl) rfl ?_ rfl
 exact Zkp
theorem IR{F:Type}[Inhabited F]{e n b g A T s k:Nat}{f:F->List D}{l:List F}{q:F}(C:HV H (vz x)=some (slD T s (l.map f)))(N:vz y=.d (ex (.int i (k:Nat))))(L:Tab P U (.slice e) n b z)(a:Tab P e d g A u)(E:g=s)(B:k<l.length)(S:q=l.getD k default):Quiet P H ⟨vB,.indexAddr U x y,t,vG,vH,vQ⟩ vz (.d (Fg T (f q))):=S▸CD C N L a E B
theorem QK(L:List (RTm))(m:Fn TW L):Wb 58 (Kc L) (Cp L):=Wb.intro λb E=>by
 have h:=Dk (e:=Ef) (l:=L) λx _=>Rm x;have Q:(Cp L).length=(BA L.length).length+(L.flatMap Ef).length:=by rw[Cp,Bt,Yaa]
 rw[Q]at E;have d:=GL L.length ZbG b ZbG;refine Dn func58 rfl (Ag func58 ZbK ZbK) rfl λw=>?_;rw[ntmps58];intro S;refine Y1<|Wa<|Y0<|Y1<|Wm<|Wm ?_;refine Wq (Bj rfl (Aa rfl)) ?_;refine Wq (AP (r:=((L.length:Nat):Int)) (ao rfl) (Aa rfl) (Aa rfl) (ES ZbG)) ?_
 refine Cy [0] (d) rfl ZbI rfl ZbF ZbD ZbL ZbB rfl ?_;rintro _ _ ⟨rfl,rfl⟩;refine ZfN ?_;refine AF (λv c=>∃k,k<=L.length/\v=L.length-k/\c=⟨[(0,.own 0),(1,.d (Kc L)),(5,.d (ex (.int .i64 (k:Nat))))],[.row 5 1 (CR (b++BA L.length++(L.take k).flatMap Ef)),.pin []]⟩) ?le ⟨0,by omega,rfl,rfl⟩ ?round
 case le=>exact Ac Zcj ZcP
 case round=>
  rintro v _ ⟨k,B,rfl,rfl⟩;by_cases O:k<L.length
  .have B:=Dg Ef O
   obtain⟨t,q⟩:∃t,t=L.getD k default:=⟨_,rfl⟩;have i:=m _ (BF O);rw[<-q]at B i;have P:(Ef t).length=(CG ⟨t.b,t.l,t.b',t.l'⟩).length+(DC (λz=>BA (u64 z)) t.m 8).length:=by rw[<-Yaa];rfl
   have F:=EV ⟨t.b,t.l,t.b',t.l'⟩ ⟨i.n,i.d⟩ (b++BA L.length++(L.take k).flatMap  Ef) Zca;refine Ah<|Y1<|Wm<|Wm ?_;refine Wq (Bj rfl (Aa rfl)) ?_;refine Wq Bc ?_;refine Y0<|Ct<|Ys<|Ah<|AWp.block<|Y1<|Wm<|Wm<|Wm ?_;refine Wq (IR (k:=k) rfl (ao rfl) (Aa rfl) (Aa rfl) rfl O q) ?_;refine Wq AG ?_;refine Wq Fc ?_
   refine Cy [0] (F) rfl ZbI rfl ZbF ZbD ZbL ZbB rfl ?_;rintro _ _ ⟨rfl,rfl⟩;refine ZfN ?_;refine AF (λv c=>∃j,j<=8/\v=8-j/\c=⟨[(0,.own 0),(1,.d (Kc L)),(5,.d (ex (.int .i64 (k:Nat)))),(6,.d (ex (.int .i64 (j:Nat))))],[.row 5 1 (CR (b++BA L.length++(L.take k).flatMap Ef++CG ⟨t.b,t.l,t.b',t.l'⟩++DC (λz=>BA (u64 z)) t.m j)),.pin []]⟩) ?lej ⟨0,by omega,rfl,rfl⟩ ?roundj
   case lej=>exact Ac ZcI Zdp
   case roundj=>
    rintro v _ ⟨j,W,rfl,rfl⟩;by_cases C:j<8
    .have A:=Gg (λz=>BA (u64 z)) t.m C
     have G:=GL (u64 (t.m j)) (by unfold u64;omega) (b++BA L.length++(L.take k).flatMap Ef++CG ⟨t.b,t.l,t.b',t.l'⟩++DC (λz=>BA (u64 z)) t.m j) ZbO;refine Ah<|Y1<|Wm ?_;refine Wq Bc ?_;refine Y0<|Ct<|Ys<|Ah<|AWp.block<|AWp.region<|Wm<|Wm<|Wm<|Wm ?_;refine Wq (IR (k:=k) rfl (ao rfl) (Aa rfl) (Aa rfl) rfl O q) ?_;refine Wq AG ?_;refine Wq A0Z ?_;refine Wq (HL (ao rfl) (Aa rfl) rfl (HM C)) ?_;refine Wq (AP (r:=((u64 (t.m j):Nat):Int)) (ao rfl) (Aa rfl) (Aa rfl) (Xm (t.m j))) ?_
     refine Cy [0] (G) rfl ZbI rfl ZbF ZbD ZbL ZbB rfl ?_;rintro _ _ ⟨rfl,rfl⟩;refine ZfN ?_;exact Zim
    .obtain rfl:j=8:=by omega
     refine ZfB ?_;exact Ac Zcj (by(refine HpLe.cons (OwLe.row (by rw[Cm Ef O,<-Yaf,<-q,Yaf (_++_) (CG _)];rfl)) ?_);exact HpLe.cons (Ak rfl)<|HpLe.nil)
  .obtain rfl:k=L.length:=by omega
   refine Ah<|Y1<|Wm<|Wm ?_;refine Wq (Bj rfl (Aa rfl)) ?_;refine Wq AO ?_;refine Y0<|Cf<|Cg<|BD<|BS<|BI<|Yn<|Y1<|Wm<|Wa<|Y0<|BV ?_
   first | refine Bs (RetsA.one rfl) rfl ?_ rfl | refine AW (RetsA.one rfl) rfl ?_ rfl
   exact⟨rfl,by rw[YaT,Cp,Bt,<-Yaf];rfl⟩
theorem JJ(L:List (List RTm))(m:Fn PoW L):Wb 51 (Ic L) (Bf L):=Wb.intro λb E=>by
 have h:=Dk (e:=Cp) (l:=L) λx _=>JO _ _;have Q:(Bf L).length=(BA L.length).length+(L.flatMap Cp).length:=by rw[Bf,Bt,Yaa]
 rw[Q]at E;have d:=GL L.length ZbG b ZbG;refine Dn func51 rfl (Ag func51 ZbK ZbK) rfl λw=>?_;rw[ntmps51];intro S;refine Y1<|Wa<|Y0<|Y1<|Wm<|Wm ?_;refine Wq (Bj rfl (Aa rfl)) ?_;refine Wq (AP (r:=((L.length:Nat):Int)) (ao rfl) (Aa rfl) (Aa rfl) (ES ZbG)) ?_
 refine Cy [0] (d) rfl ZbI rfl ZbF ZbD ZbL ZbB rfl ?_;rintro _ _ ⟨rfl,rfl⟩;refine ZfN ?_;refine AF (λv c=>∃k,k<=L.length/\v=L.length-k/\c=⟨[(0,.own 0),(1,.d (Ic L)),(5,.d (ex (.int .i64 (k:Nat))))],[.row 5 1 (CR (b++BA L.length++(L.take k).flatMap Cp)),.pin []]⟩) ?le ⟨0,by omega,rfl,rfl⟩ ?round
 case le=>exact Ac Zcj ZcP
 case round=>
  rintro v _ ⟨k,B,rfl,rfl⟩;by_cases O:k<L.length
  .have B:=Dg Cp O
   have F:=QK (L.getD k default) (m _ (BF O)) (b++BA L.length++(L.take k).flatMap Cp) Zca;refine Ah<|Y1<|Wm<|Wm ?_;refine Wq (Bj rfl (Aa rfl)) ?_;refine Wq Bc ?_;refine Y0<|Ct<|Ys<|Ah<|AWp.block<|AWp.region<|Wm<|Wm<|Wm ?_;refine Wq (CD (k:=k) rfl (ao rfl) (Aa rfl) (Aa rfl) rfl O) ?_;refine Wq AT ?_
   refine Cy [0] (F) rfl ZbI rfl ZbF ZbD ZbL ZbB rfl ?_;rintro _ _ ⟨rfl,rfl⟩;refine ZgO ?_;exact Ac Zcj (by exact HpLe.cons (OwLe.row (by rw[Cm Cp O,<-Yaf]))<|HpLe.cons (Ak rfl)<|HpLe.nil)
  .obtain rfl:k=L.length:=by omega
   refine Ah<|Y1<|Wm<|Wm ?_;refine Wq (Bj rfl (Aa rfl)) ?_;refine Wq AO ?_;refine Y0<|Cf<|Cg<|BD<|BS<|BI<|Yn<|Y1<|Wm<|Wa<|Y0<|BV ?_
   first | refine Bs (RetsA.one rfl) rfl ?_ rfl | refine AW (RetsA.one rfl) rfl ?_ rfl
   exact⟨rfl,by rw[YaT,Bf,Bt,<-Yaf];rfl⟩
theorem Ro(L:List (List (List RTm)))(m:Fn PsW L):Wb 201 (Tu L) (BJ L):=Wb.intro λb E=>by
 have h:=Dk (e:=Bf) (l:=L) λx _=>JO _ _;have Q:(BJ L).length=(BA L.length).length+(L.flatMap Bf).length:=by rw[BJ,Bt,Yaa]
 rw[Q]at E;have d:=GL L.length ZbG b ZbG;refine Dn func201 rfl (Ag func201 ZbK ZbK) rfl λw=>?_;rw[ntmps201];intro S;refine Y1<|Wa<|Y0<|Y1<|Wm<|Wm ?_;refine Wq (Bj rfl (Aa rfl)) ?_;refine Wq (AP (r:=((L.length:Nat):Int)) (ao rfl) (Aa rfl) (Aa rfl) (ES ZbG)) ?_
 refine Cy [0] (d) rfl ZbI rfl ZbF ZbD ZbL ZbB rfl ?_;rintro _ _ ⟨rfl,rfl⟩;refine ZfN ?_;refine AF (λv c=>∃k,k<=L.length/\v=L.length-k/\c=⟨[(0,.own 0),(1,.d (Tu L)),(5,.d (ex (.int .i64 (k:Nat))))],[.row 5 1 (CR (b++BA L.length++(L.take k).flatMap Bf)),.pin []]⟩) ?le ⟨0,by omega,rfl,rfl⟩ ?round
 case le=>exact Ac Zcj ZcP
 case round=>
  rintro v _ ⟨k,B,rfl,rfl⟩;by_cases O:k<L.length
  .have B:=Dg Bf O
   have F:=JJ (L.getD k default) (m _ (BF O)) (b++BA L.length++(L.take k).flatMap Bf) Zca;refine Ah<|Y1<|Wm<|Wm ?_;refine Wq (Bj rfl (Aa rfl)) ?_;refine Wq Bc ?_;refine Y0<|Ct<|Ys<|Ah<|AWp.block<|AWp.region<|Wm<|Wm<|Wm ?_;refine Wq (CD (k:=k) rfl (ao rfl) (Aa rfl) (Aa rfl) rfl O) ?_;refine Wq AT ?_
   refine Cy [0] (F) rfl ZbI rfl ZbF ZbD ZbL ZbB rfl ?_;rintro _ _ ⟨rfl,rfl⟩;refine ZgO ?_;exact Ac Zcj (by exact HpLe.cons (OwLe.row (by rw[Cm Bf O,<-Yaf]))<|HpLe.cons (Ak rfl)<|HpLe.nil)
  .obtain rfl:k=L.length:=by omega
   refine Ah<|Y1<|Wm<|Wm ?_;refine Wq (Bj rfl (Aa rfl)) ?_;refine Wq AO ?_;refine Y0<|Cf<|Cg<|BD<|BS<|BI<|Yn<|Y1<|Wm<|Wa<|Y0<|BV ?_
   first | refine Bs (RetsA.one rfl) rfl ?_ rfl | refine AW (RetsA.one rfl) rfl ?_ rfl
   exact⟨rfl,by rw[YaT,BJ,Bt,<-Yaf];rfl⟩
theorem Xl(L:List (RQ))(m:Fn QB L):Wb 202 (GY L) (GF L):=Wb.intro λb E=>by
 have h:=Dk (e:=CG) (l:=L) λx _=>Jc x;have Q:(GF L).length=(BA L.length).length+(L.flatMap CG).length:=by rw[GF,Bt,Yaa]
 rw[Q]at E;have d:=GL L.length ZbG b ZbG;refine Dn func202 rfl (Ag func202 ZbK ZbK) rfl λw=>?_;rw[ntmps202];intro S;refine Y1<|Wa<|Y0<|Y1<|Wm<|Wm ?_;refine Wq (Bj rfl (Aa rfl)) ?_;refine Wq (AP (r:=((L.length:Nat):Int)) (ao rfl) (Aa rfl) (Aa rfl) (ES ZbG)) ?_
 refine Cy [0] (d) rfl ZbI rfl ZbF ZbD ZbL ZbB rfl ?_;rintro _ _ ⟨rfl,rfl⟩;refine ZfN ?_;refine AF (λv c=>∃k,k<=L.length/\v=L.length-k/\c=⟨[(0,.own 0),(1,.d (GY L)),(5,.d (ex (.int .i64 (k:Nat))))],[.row 5 1 (CR (b++BA L.length++(L.take k).flatMap CG)),.pin []]⟩) ?le ⟨0,by omega,rfl,rfl⟩ ?round
 case le=>exact Ac Zcj ZcP
 case round=>
  rintro v _ ⟨k,B,rfl,rfl⟩;by_cases O:k<L.length
  .have B:=Dg CG O
   have F:=EV (L.getD k default) (m _ (BF O)) (b++BA L.length++(L.take k).flatMap CG) Zca;refine Ah<|Y1<|Wm<|Wm ?_;refine Wq (Bj rfl (Aa rfl)) ?_;refine Wq Bc ?_;refine Y0<|Ct<|Ys<|Ah<|AWp.block<|AWp.region<|Wm<|Wm<|Wm ?_;refine Wq (CD (k:=k) rfl (ao rfl) (Aa rfl) (Aa rfl) rfl O) ?_;refine Wq Cb ?_
   refine Cy [0] (F) rfl ZbI rfl ZbF ZbD ZbL ZbB rfl ?_;rintro _ _ ⟨rfl,rfl⟩;refine ZgO ?_;exact Ac Zcj (by exact HpLe.cons (OwLe.row (by rw[Cm CG O,<-Yaf]))<|HpLe.cons (Ak rfl)<|HpLe.nil)
  .obtain rfl:k=L.length:=by omega
   refine Ah<|Y1<|Wm<|Wm ?_;refine Wq (Bj rfl (Aa rfl)) ?_;refine Wq AO ?_;refine Y0<|Cf<|Cg<|BD<|BS<|BI<|Yn<|Y1<|Wm<|Wa<|Y0<|BV ?_
   first | refine Bs (RetsA.one rfl) rfl ?_ rfl | refine AW (RetsA.one rfl) rfl ?_ rfl
   exact⟨rfl,by rw[YaT,GF,Bt,<-Yaf];rfl⟩
theorem RR(L:List (Nat->Int))(m:Fn (Gp IW) L):Wb 57 (Du L) (BZ L):=Wb.intro λb E=>by
 have h:=Dk (e:=Fy) (l:=L) λx _=>Ie LN _;have Q:(BZ L).length=(BA L.length).length+(L.flatMap Fy).length:=by rw[BZ,Bt,Yaa]
 rw[Q]at E;have d:=GL L.length ZbG b ZbG;refine Dn func57 rfl (Ag func57 ZbK ZbK) rfl λw=>?_;rw[ntmps57];intro S;refine Y1<|Wa<|Y0<|Y1<|Wm<|Wm ?_;refine Wq (Bj rfl (Aa rfl)) ?_;refine Wq (AP (r:=((L.length:Nat):Int)) (ao rfl) (Aa rfl) (Aa rfl) (ES ZbG)) ?_
 refine Cy [0] (d) rfl ZbI rfl ZbF ZbD ZbL ZbB rfl ?_;rintro _ _ ⟨rfl,rfl⟩;refine ZfN ?_;refine AF (λv c=>∃k,k<=L.length/\v=L.length-k/\c=⟨[(0,.own 0),(1,.d (Du L)),(5,.d (ex (.int .i64 (k:Nat))))],[.row 5 1 (CR (b++BA L.length++(L.take k).flatMap Fy)),.pin []]⟩) ?le ⟨0,by omega,rfl,rfl⟩ ?round
 case le=>exact Ac Zcj ZcP
 case round=>
  rintro v _ ⟨k,B,rfl,rfl⟩;by_cases O:k<L.length
  .have B:=Dg Fy O
   obtain⟨t,q⟩:∃t,t=L.getD k default:=⟨_,rfl⟩;have i:=m _ (BF O);rw[<-q]at B i;have P:(Fy t).length=(DC Bm t 8).length:=rfl;refine Ah<|Y1<|Wm<|Wm ?_;refine Wq (Bj rfl (Aa rfl)) ?_;refine Wq Bc ?_;refine Y0<|Ct<|Ys<|Ah<|AWp.block<|Y1<|Wa<|Y0<|AWp.block ?_
   refine AF (λv c=>∃j,j<=8/\v=8-j/\c=⟨[(0,.own 0),(1,.d (Du L)),(5,.d (ex (.int .i64 (k:Nat)))),(6,.d (ex (.int .i64 (j:Nat))))],[.row 5 1 (CR (b++BA L.length++(L.take k).flatMap Fy++DC (Bm) t j)),.pin []]⟩) ?lej ⟨0,by omega,rfl,rfl⟩ ?roundj
   case lej=>exact Ac ZcI Zdp
   case roundj=>
    rintro v _ ⟨j,W,rfl,rfl⟩;by_cases F:j<8
    .have A:=Gg (Bm) t F
     have C:=Fi (t j) (i j F) (b++BA L.length++(L.take k).flatMap Fy++DC (Bm) t j) ZbO;refine Ah<|Y1<|Wm ?_;refine Wq Bc ?_;refine Y0<|Ct<|Ys<|Ah<|AWp.block<|AWp.region<|Wm<|Wm<|Wm<|Wm ?_;refine Wq (IR (k:=k) rfl (ao rfl) (Aa rfl) (Aa rfl) rfl O q) ?_;refine Wq (Lw (k:=j) (ao rfl) (ao rfl) (Aa rfl) (Aa rfl) F) ?_;refine Wq (HL (ao rfl) (Aa rfl) rfl (HM F)) ?_
     refine Cy [0] (C) rfl ZbI rfl ZbF ZbD ZbL ZbB rfl ?_;rintro _ _ ⟨rfl,rfl⟩;refine ZfN ?_;exact Zim
    .obtain rfl:j=8:=by omega
     refine ZfB ?_;exact Ac Zcj (by(refine HpLe.cons (OwLe.row (by rw[Cm Fy O,<-Yaf,<-q];rfl)) ?_);exact HpLe.cons (Ak rfl)<|HpLe.nil)
  .obtain rfl:k=L.length:=by omega
   refine Ah<|Y1<|Wm<|Wm ?_;refine Wq (Bj rfl (Aa rfl)) ?_;refine Wq AO ?_;refine Y0<|Cf<|Cg<|BD<|BS<|BI<|Yn<|Y1<|Wm<|Wa<|Y0<|BV ?_
   first | refine Bs (RetsA.one rfl) rfl ?_ rfl | refine AW (RetsA.one rfl) rfl ?_ rfl
   exact⟨rfl,by rw[YaT,BZ,Bt,<-Yaf];rfl⟩
theorem A6y{B:Array Field}{S:Field}(C:vz x=.d (Fg k v))(A:Tab P U (.struct B) b T z)(p:B[n]? = some S)(a:Tab P S.type d m c u)(h:Nat.beq m 0=false)(q:S.offset=g):Quiet P H ⟨vB,.fieldAddr U x n,t,vG,vH,vQ⟩ vz (.d (Fg k (v.drop g))):=by
 subst q;exact Oc (o:=⟨vB,.fieldAddr U x n,t,vG,vH,vQ⟩) rfl C A p a (YaI h)
theorem A1j{f:Nat->RQ×RQ}(h:n<8):PartAt (((Dv f).drop (n*8)).drop 0) 0 4 (Hl (f n).1):=by
 have q:=Dm (c:=λi=>Jk (f i)) (n:=8) (λ_=>rfl) h;have I:(GK λi=>Jk (f i)).length=64:=Ew (n:=8) (λ_=>rfl);refine⟨by simp only[Dv,YbS,I];omega,?_⟩;have A:=q.eq;have:(Hl (f n).1)=(Jk (f n)).take 4:=rfl;rw[this,<-A,YaP,YaP,YeJ];rfl
theorem A1i{f:Nat->RQ×RQ}(h:n<8):PartAt (((Dv f).drop (n*8)).drop 4) 0 4 (Hl (f n).2):=by
 have q:=Dm (c:=λi=>Jk (f i)) (n:=8) (λ_=>rfl) h;have I:(GK λi=>Jk (f i)).length=64:=Ew (n:=8) (λ_=>rfl);refine⟨by simp only[Dv,YbS,I];omega,?_⟩;have A:=q.eq;have:(Hl (f n).2)=(Jk (f n)).drop 4:=rfl;rw[this,<-A,YaP,List.drop_take];rfl
theorem YP(L:List (Nat->RQ×RQ))(m:Fn (Gp VW) L):Wb 203 (FX L) (Fb L):=Wb.intro λb E=>by
 have C:=Dk (e:=GR) (l:=L) λx _=>Ie Pa _;have Q:(Fb L).length=(BA L.length).length+(L.flatMap GR).length:=by rw[Fb,Bt,Yaa]
 rw[Q]at E;have d:=GL L.length ZbG b ZbG;refine Dn func203 rfl (Ag func203 ZbK ZbK) rfl λw=>?_;rw[ntmps203];intro S;refine Y1<|Wa<|Y0<|Y1<|Wm<|Wm ?_;refine Wq (Bj rfl (Aa rfl)) ?_;refine Wq (AP (r:=((L.length:Nat):Int)) (ao rfl) (Aa rfl) (Aa rfl) (ES ZbG)) ?_
 refine Cy [0] (d) rfl ZbI rfl ZbF ZbD ZbL ZbB rfl ?_;rintro _ _ ⟨rfl,rfl⟩;refine ZfN ?_;refine AF (λv c=>∃k,k<=L.length/\v=L.length-k/\c=⟨[(0,.own 0),(1,.d (FX L)),(5,.d (ex (.int .i64 (k:Nat))))],[.row 5 1 (CR (b++BA L.length++(L.take k).flatMap GR)),.pin []]⟩) ?le ⟨0,by omega,rfl,rfl⟩ ?round
 case le=>exact Ac Zcj ZcP
 case round=>
  rintro v _ ⟨k,B,rfl,rfl⟩;by_cases O:k<L.length
  .have B:=Dg GR O
   obtain⟨t,A⟩:∃t,t=L.getD k default:=⟨_,rfl⟩;have i:=m _ (BF O);rw[<-A]at B i;have P:(GR t).length=(DC GO t 8).length:=rfl;refine Ah<|Y1<|Wm<|Wm ?_;refine Wq (Bj rfl (Aa rfl)) ?_;refine Wq Bc ?_;refine Y0<|Ct<|Ys<|Ah<|AWp.block<|Y1<|Wa<|Y0<|AWp.block ?_
   refine AF (λv c=>∃j,j<=8/\v=8-j/\c=⟨[(0,.own 0),(1,.d (FX L)),(5,.d (ex (.int .i64 (k:Nat)))),(6,.d (ex (.int .i64 (j:Nat))))],[.row 5 1 (CR (b++BA L.length++(L.take k).flatMap GR++DC GO t j)),.pin []]⟩) ?lej ⟨0,by omega,rfl,rfl⟩ ?roundj
   case lej=>exact Ac ZcI Zdp
   case roundj=>
    rintro v _ ⟨j,W,rfl,rfl⟩;by_cases J:j<8
    .have I:=Gg GO t J
     have G:=i j J;have F:(GO (t j)).length=(CG (t j).1).length+(CG (t j).2).length:=by rw[GO,Yaa]
     have d:=EV (t j).1 G.1 (b++BA L.length++(L.take k).flatMap GR++DC GO t j) Zca;have q:=EV (t j).2 G.2 (b++BA L.length++(L.take k).flatMap GR++DC GO t j++CG (t j).1) Zca;refine Go ?_;refine ER 0 5 1 (λn=>CR (([b++BA L.length++(L.take k).flatMap GR++DC GO t j,b++BA L.length++(L.take k).flatMap GR++DC GO t j++CG (t j).1,b++BA L.length++(L.take k).flatMap GR++DC GO t j++CG (t j).1++CG (t j).2]:List (List Nat)).getD n [])) 2 (some 0) (λk=>([8,16]:List Nat).getD k 0) [.o 0,.q (.d (FX L)),.q (.d (ex (.int .i64 (k:Nat)))),.q (.d (ex (.int .i64 (j:Nat)))),.q (.d (Fg 131 (Dv t))),.q (.d (Fg 131 ((Dv t).drop (j*8)))),.q (.d (Fg 131 (((Dv t).drop (j*8)).drop 0))),.q (.d (AQ (Hl (t j).1))),.t 0,.q (.d (FX L)),.q (.d (ex (.int .i64 (k:Nat)))),.q (.d (ex (.int .i64 (j:Nat)))),.q (.d (Fg 131 (Dv t))),.q (.d (Fg 131 ((Dv t).drop (j*8)))),.q (.d (Fg 131 (((Dv t).drop (j*8)).drop 4))),.q (.d (AQ (Hl (t j).2))),.t 1,.o 2] [[],[],[],[],[(23,1),(24,2)],[(26,4),(25,3)],[(27,5)],[(28,6)],[(22,0),(29,7)],[],[],[],[(31,9),(32,10)],[(34,12),(33,11)],[(35,13)],[(36,14)],[(30,8),(37,15)],[(38,16)]] [(1,.d (FX L)),(5,.d (ex (.int .i64 (k:Nat)))),(6,.d (ex (.int .i64 (j:Nat))))] [(0,.own 0),(1,.d (FX L)),(5,.d (ex (.int .i64 (k:Nat)))),(6,.d (ex (.int .i64 (j:Nat))))] ZbK rfl ⟨rfl,rfl,rfl,trivial⟩ (λ_ h=>by cases h;rfl) (by refine CSteps.s ?_;refine ET ?_;refine ET ?_;refine ET ?_;refine ET ?_;refine ET ?_;refine ET ?_;refine ET ?_;refine Ox (d) ?_;refine ET ?_;refine ET ?_;refine ET ?_;refine ET ?_;refine ET ?_;refine ET ?_;refine ET ?_;refine Ox (q) ?_;refine CSteps.s ?_;exact CSteps.nil) ZbK rfl ZbI ⟨rfl,rfl,rfl,rfl,trivial⟩ [.row 5 1 (CR (b++BA L.length++(L.take k).flatMap GR++DC GO t j++CG (t j).1++CG (t j).2)),.pin []] rfl ?_;refine Go ?_;refine Ai (8-(j+1)) ZbG ⟨j+1,by omega,rfl,rfl⟩ ?_;exact Ac ZcI (by(refine HpLe.cons (OwLe.row (by rw[Es,GO];simp only[Yaf])) ?_);exact HpLe.cons (Ak rfl)<|HpLe.nil)
    .obtain rfl:j=8:=by omega
     refine ZfB ?_;exact Ac Zcj (by(refine HpLe.cons (OwLe.row (by rw[Cm GR O,<-Yaf,<-A];rfl)) ?_);exact HpLe.cons (Ak rfl)<|HpLe.nil)
  .obtain rfl:k=L.length:=by omega
   refine Ah<|Y1<|Wm<|Wm ?_;refine Wq (Bj rfl (Aa rfl)) ?_;refine Wq AO ?_;refine Y0<|Cf<|Cg<|BD<|BS<|BI<|Yn<|Y1<|Wm<|Wa<|Y0<|BV ?_
   first | refine Bs (RetsA.one rfl) rfl ?_ rfl | refine AW (RetsA.one rfl) rfl ?_ rfl
   exact⟨rfl,by rw[YaT,Fb,Bt,<-Yaf];rfl⟩
theorem LT{F:Type}{e:F->List Nat}(l:List F)(h:∀x,0<(e x).length):l.length<=(l.flatMap e).length:=Dk (e:=e) (l:=l) λx _=>h x
theorem Wj(k:Cor)(h:CoW k):Wb 19 (AQ (Ec k)) (FV k):=Wb.intro λb E=>by
 have Q:FV k=Bm k.n++(Bf k.e++(Bf k.f)):=by simp only[FV,Yaf]
 rw[Q]at E;simp only[Yaa]at E;obtain⟨T,c⟩:∃B,B=b++Bm k.n:=⟨_,rfl⟩;have F:T.length=b.length+(Bm k.n).length:=by rw[c,Yaa]
 have q:=Fi k.n h.n b ZbG;rw[<-c]at q;obtain⟨o,G⟩:∃B,B=T++Bf k.e:=⟨_,rfl⟩;have C:o.length=T.length+(Bf k.e).length:=by rw[G,Yaa]
 have A:=JJ k.e h.e T ZbG;rw[<-G]at A;obtain⟨U,I⟩:∃B,B=o++Bf k.f:=⟨_,rfl⟩;have H:U.length=o.length+(Bf k.f).length:=by rw[I,Yaa]
 have K:=JJ k.f h.f o ZbG;rw[<-I]at K;have P:b++FV k=U:=by rw[I,G,c];simp only[FV,Yaf]
 refine Dn func19 rfl (Ag func19 ZbK ZbK) rfl λw=>?_;rw[ntmps19];intro S;apply Y1;refine Bx ?_;refine Wa<|Y0<|Ah ?_
 refine ER 0 5 1 (λn=>CR (([b,T,o,U]:List (List Nat)).getD n [])) 3 (some 0) (λk=>([3,6,9]:List Nat).getD k 0) [.o 0,.q (.ptr 2 0),.q (.d (ex (.int .i64 k.n))),.t 0,.q (.ptr 2 1),.q (.d (Ic k.e)),.t 1,.q (.ptr 2 2),.q (.d (Ic k.f)),.t 2,.o 3] [[],[],[(6,1)],[(5,0),(7,2)],[],[(9,4)],[(8,3),(10,5)],[],[(12,7)],[(11,6),(13,8)],[(14,9)]] [(3,.ptr 2 0)] [(4,.own 0)] ZbK rfl ⟨rfl,trivial⟩ (λ_ h=>by cases h;rfl) (by refine CSteps.s ?_;refine ET ?_;refine ET ?_;refine Ox (q) ?_;refine ET ?_;refine ET ?_;refine Ox (A) ?_;refine ET ?_;refine ET ?_;refine Ox (K) ?_;refine CSteps.s ?_;exact CSteps.nil) ZbK rfl ZbI ⟨rfl,trivial⟩ [.row 5 1 (CR (U)),.pin [],.var 26 ((Ec k).map .d)] rfl ?_;refine Yn<|BV ?_
 exact Zbl
theorem A5Z(c:Clm)(h:ClW c):Wb 110 (AQ (ED c)) (IN c):=Wb.intro λb E=>by
 have Q:IN c=Bm c.kind++(Cp c.p++(Bm c.n++(Bm c.d++(Bm c.r++(BZ c.o++(Bf c.l++(BA c.s.length++(c.s.flatMap Bm++(Fb c.b))))))))):=by simp only[IN,Bt,Yaf]
 rw[Q]at E;simp only[Yaa]at E;have I:=LT c.s LN;obtain⟨T,V⟩:∃B,B=b++Bm c.kind:=⟨_,rfl⟩;have M:T.length=b.length+(Bm c.kind).length:=by rw[V,Yaa]
 have q:=Fi c.kind h.kind b ZbG;rw[<-V]at q;obtain⟨o,Z⟩:∃B,B=T++Cp c.p:=⟨_,rfl⟩;have L:o.length=T.length+(Cp c.p).length:=by rw[Z,Yaa]
 have A:=QK c.p h.p T ZbG;rw[<-Z]at A;obtain⟨U,a⟩:∃B,B=o++Bm c.n:=⟨_,rfl⟩;have H:U.length=o.length+(Bm c.n).length:=by rw[a,Yaa]
 have K:=Fi c.n h.n o ZbG;rw[<-a]at K;obtain⟨d,m⟩:∃B,B=U++Bm c.d:=⟨_,rfl⟩;have z:d.length=U.length+(Bm c.d).length:=by rw[m,Yaa]
 have Y:=Fi c.d h.d U ZbG;rw[<-m]at Y;obtain⟨e,p⟩:∃B,B=d++Bm c.r:=⟨_,rfl⟩;have x:e.length=d.length+(Bm c.r).length:=by rw[p,Yaa]
 have n:=Fi c.r h.r d ZbG;rw[<-p]at n;obtain⟨g,r⟩:∃B,B=e++BZ c.o:=⟨_,rfl⟩;have R:g.length=e.length+(BZ c.o).length:=by rw[r,Yaa]
 have J:=RR c.o h.o e ZbG;rw[<-r]at J;obtain⟨W,s⟩:∃B,B=g++Bf c.l:=⟨_,rfl⟩;have xa:W.length=g.length+(Bf c.l).length:=by rw[s,Yaa]
 have f:=JJ c.l h.l g ZbG;rw[<-s]at f;obtain⟨B8,t⟩:∃B,B=W++BA c.s.length:=⟨_,rfl⟩;have xb:B8.length=W.length+(BA c.s.length).length:=by rw[t,Yaa]
 have y:=GL c.s.length ZbG W ZbG;rw[<-t]at y;obtain⟨i,u⟩:∃B,B=B8++c.s.flatMap Bm:=⟨_,rfl⟩;have xc:i.length=B8.length+(c.s.flatMap Bm).length:=by rw[u,Yaa]
 obtain⟨j,l⟩:∃B,B=i++Fb c.b:=⟨_,rfl⟩;have xd:j.length=i.length+(Fb c.b).length:=by rw[l,Yaa]
 have X:=YP c.b h.b i ZbG;rw[<-l]at X;have P:b++IN c=j:=by rw[l,u,t,s,r,p,m,a,Z,V];simp only[IN,Bt,Yaf]
 refine Dn func110 rfl (Ag func110 ZbK ZbK) rfl λw=>?_;rw[ntmps110];intro S;apply Y1;refine Bx ?_;refine Wa<|Y0<|Ah ?_
 refine ER 0 5 1 (λN=>CR (([b,T,o]:List (List Nat)).getD N [])) 2 (some 0) (λk=>([3,6]:List Nat).getD k 0) [.o 0,.q (.ptr 2 0),.q (.d (ex (.int .i64 c.kind))),.t 0,.q (.ptr 2 1),.q (.d (Kc c.p)),.t 1,.o 2] [[],[],[(7,1)],[(6,0),(8,2)],[],[(10,4)],[(9,3),(11,5)],[(12,6)]] [(3,.ptr 2 0)] [(0,.own 0),(3,.ptr 2 0)] ZbK rfl ⟨rfl,trivial⟩ (λ_ h=>by cases h;rfl) (by refine CSteps.s ?_;refine ET ?_;refine ET ?_;refine Ox (q) ?_;refine ET ?_;refine ET ?_;refine Ox (A) ?_;refine CSteps.s ?_;exact CSteps.nil) ZbK rfl ZbI ⟨rfl,rfl,trivial⟩ [.row 5 1 (CR (o)),.pin [],.var 34 ((ED c).map .d)] rfl ?_;refine Yn<|Ah ?_
 refine ER 0 5 1 (λN=>CR (([o,U,d,e,g,W]:List (List Nat)).getD N [])) 5 (some 0) (λk=>([3,6,9,12,15]:List Nat).getD k 0) [.o 0,.q (.ptr 2 2),.q (.d (ex (.int .i64 c.n))),.t 0,.q (.ptr 2 3),.q (.d (ex (.int .i64 c.d))),.t 1,.q (.ptr 2 4),.q (.d (ex (.int .i64 c.r))),.t 2,.q (.ptr 2 5),.q (.d (Du c.o)),.t 3,.q (.ptr 2 6),.q (.d (Ic c.l)),.t 4,.o 5] [[],[],[(14,1)],[(13,0),(15,2)],[],[(17,4)],[(16,3),(18,5)],[],[(20,7)],[(19,6),(21,8)],[],[(23,10)],[(22,9),(24,11)],[],[(26,13)],[(25,12),(27,14)],[(28,15)]] [(3,.ptr 2 0)] [(0,.own 0),(3,.ptr 2 0)] ZbK rfl ⟨rfl,trivial⟩ (λ_ h=>by cases h;rfl) (by refine CSteps.s ?_;refine ET ?_;refine ET ?_;refine Ox (K) ?_;refine ET ?_;refine ET ?_;refine Ox (Y) ?_;refine ET ?_;refine ET ?_;refine Ox (n) ?_;refine ET ?_;refine ET ?_;refine Ox (J) ?_;refine ET ?_;refine ET ?_;refine Ox (f) ?_;refine CSteps.s ?_;exact CSteps.nil) ZbK rfl ZbI ⟨rfl,rfl,trivial⟩ [.row 5 1 (CR (W)),.pin [],.var 34 ((ED c).map .d)] rfl ?_;refine Yn<|Y1<|Wm ?_;refine Wq AC ?_;refine Wq Ao ?_;refine Wq (Bj rfl (Aa rfl)) ?_;refine Wq (AP (r:=((c.s.length:Nat):Int)) (ao rfl) (Aa rfl) (Aa rfl) (ES ZbG)) ?_
 refine Cy [0] (y) rfl ZbI rfl ZbF ZbD ZbL ZbB rfl ?_;rintro _ _ ⟨rfl,rfl⟩;refine Kr ?_;refine Wa<|Y0<|Ah<|Y1<|Wa<|Y0<|AWp.block ?_
 refine AF (λv G=>∃k,k<=c.s.length/\v=c.s.length-k/\G=⟨[(0,.own 0),(3,.ptr 2 0),(5,.d (ex (.int .i64 (k:Nat))))],[.row 5 1 (CR (B8++(c.s.take k).flatMap Bm)),.pin [],.var 34 ((ED c).map .d)]⟩) ?le ⟨0,by omega,rfl,rfl⟩ ?round
 case le=>exact Ac Zce ZcU
 case round=>
  rintro v _ ⟨k,C,rfl,rfl⟩;by_cases O:k<c.s.length
  .have C:=Dg Bm O
   have F:=Fi (c.s.getD k default) (h.s _ (BF O)) (B8++(c.s.take k).flatMap Bm) Zca;refine Ah<|Y1<|Wm ?_;refine Wq AC ?_;refine Wq Ao ?_;refine Wq (Bj rfl (Aa rfl)) ?_;refine Wq Bc ?_;refine Y0<|Ct<|Ys<|Ah<|AWp.block<|AWp.region<|Wm ?_;refine Wq AC ?_;refine Wq Ao ?_;refine Wm ?_;refine Wq (CD (k:=k) rfl (ao rfl) (Aa rfl) (Aa rfl) rfl O) ?_;refine Wq AT ?_
   refine Cy [0] (F) rfl ZbI rfl ZbF ZbD ZbL ZbB rfl ?_;rintro _ _ ⟨rfl,rfl⟩;refine Kr ?_;refine Wa<|AWl.nil<|Bi<|Yn<|AWp.region<|Wm ?_;refine Wq CJ ?_;refine Wa<|AWl.nil ?_
   refine Ai (c.s.length-(k+1)) ZbG ⟨k+1,by omega,rfl,rfl⟩ ?_;exact Ac Zce (by exact HpLe.cons (OwLe.row (by rw[Cm Bm O,<-Yaf]))<|HpLe.cons (Ak rfl)<|HpLe.cons (Ad rfl)<|HpLe.nil)
  .obtain rfl:k=c.s.length:=by omega
   rw[YaT,<-u];refine Ah<|Y1<|Wm ?_;refine Wq AC ?_;refine Wq Ao ?_;refine Wq (Bj rfl (Aa rfl)) ?_;refine Wq AO ?_;refine Y0<|Cf<|Cg<|BD<|BS<|BI<|Yn<|Y1<|Wm ?_;refine Wq AC ?_;refine Wq Ao ?_
   refine Cy [0] (X) rfl ZbI rfl ZbF ZbD ZbL ZbB rfl ?_;rintro _ _ ⟨rfl,rfl⟩;refine Kr ?_;refine Wa<|Y0<|BV ?_
   exact Zbl
theorem ZC{k:Nat}(h:k<8):CellAt (DE uL) (7+k*1) (ex (.int .i64 (uL.r.l k))):=by
 rcases lt8 h with rfl | rfl | rfl | rfl | rfl | rfl | rfl | rfl<;>exact⟨(by decide:_<28),rfl⟩
theorem ZB{k:Nat}(h:k<8):CellAt (DE uL) (16+k*1) (GY (uL.r.r k)):=by
 rcases lt8 h with rfl | rfl | rfl | rfl | rfl | rfl | rfl | rfl<;>exact⟨(by decide:_<28),rfl⟩
theorem A1h{f:Nat->RQ}(h:n<8):PartAt ((Mq f).drop (n*4)) 0 4 (Hl (f n)):=by
 have q:=Dm (c:=λi=>Hl (f i)) (n:=4) (λ_=>rfl) h;have I:(GK λi=>Hl (f i)).length=32:=Ew (n:=4) (λ_=>rfl);exact⟨by simp only[Mq,YbS,I];omega,q.eq⟩
theorem A80(e:Crt)(h:CrW e):Wb 109 (AQ (DE e)) (KC e):=Wb.intro λb E=>by
 have Q:KC e=Bm e.n++(Bf e.cof++(Bf e.g++(BZ e.o++(BJ e.c++(BJ e.q++(BJ e.s++(Fy e.r.l++(GF e.r.q++(Jx GF e.r.r++(BA e.a.length++(e.a.flatMap GO++(BA e.sq.length++(e.sq.flatMap Kz++(BA e.x.length++(e.x.flatMap Qp++(Fb e.b)))))))))))))))):=by simp only[KC,Kg,Bt,Yaf]
 rw[Q]at E;simp only[Yaa]at E;have xM:=LT e.a Pa;have xN:=LT e.sq ZZ;have X:e.x.length<=(e.x.flatMap Qp).length:=LT e.x (Ie Jc);obtain⟨T,g⟩:∃B,B=b++Bm e.n:=⟨_,rfl⟩;have M:T.length=b.length+(Bm e.n).length:=by rw[g,Yaa]
 have q:=Fi e.n h.n b ZbG;rw[<-g]at q;obtain⟨a,p⟩:∃B,B=T++Bf e.cof:=⟨_,rfl⟩;have J:a.length=T.length+(Bf e.cof).length:=by rw[p,Yaa]
 have A:=JJ e.cof h.cof T ZbG;rw[<-p]at A;obtain⟨U,r⟩:∃B,B=a++Bf e.g:=⟨_,rfl⟩;have H:U.length=a.length+(Bf e.g).length:=by rw[r,Yaa]
 have K:=JJ e.g h.g a ZbG;rw[<-r]at K;obtain⟨y,xe⟩:∃B,B=U++BZ e.o:=⟨_,rfl⟩;have xl:y.length=U.length+(BZ e.o).length:=by rw[xe,Yaa]
 have Y:=RR e.o h.o U ZbG;rw[<-xe]at Y;obtain⟨B5,xf⟩:∃B,B=y++BJ e.c:=⟨_,rfl⟩;have xk:B5.length=y.length+(BJ e.c).length:=by rw[xf,Yaa]
 have n:=Ro e.c h.c y ZbG;rw[<-xf]at n;obtain⟨B6,xg⟩:∃B,B=B5++BJ e.q:=⟨_,rfl⟩;have xn:B6.length=B5.length+(BJ e.q).length:=by rw[xg,Yaa]
 have G:=Ro e.q h.q B5 ZbG;rw[<-xg]at G;obtain⟨m,xh⟩:∃B,B=B6++BJ e.s:=⟨_,rfl⟩;have xo:m.length=B6.length+(BJ e.s).length:=by rw[xh,Yaa]
 have f:=Ro e.s h.s B6 ZbG;rw[<-xh]at f;obtain⟨B8,xi⟩:∃B,B=m++Fy e.r.l:=⟨_,rfl⟩;have xp:B8.length=m.length+(Fy e.r.l).length:=by rw[xi,Yaa]
 obtain⟨z,xj⟩:∃B,B=B8++GF e.r.q:=⟨_,rfl⟩;have xq:z.length=B8.length+(GF e.r.q).length:=by rw[xj,Yaa]
 have N:=Xl e.r.q h.r.q B8 ZbG;rw[<-xj]at N;obtain⟨xb,xd⟩:∃B,B=z++Jx GF e.r.r:=⟨_,rfl⟩;have xB:xb.length=z.length+(Jx GF e.r.r).length:=by rw[xd,Yaa]
 obtain⟨R,xu⟩:∃B,B=xb++BA e.a.length:=⟨_,rfl⟩;have xF:R.length=xb.length+(BA e.a.length).length:=by rw[xu,Yaa]
 have S:=GL e.a.length ZbG xb ZbG;rw[<-xu]at S;obtain⟨xr,xv⟩:∃B,B=R++e.a.flatMap GO:=⟨_,rfl⟩;have xG:xr.length=R.length+(e.a.flatMap GO).length:=by rw[xv,Yaa]
 obtain⟨xa,xw⟩:∃B,B=xr++BA e.sq.length:=⟨_,rfl⟩;have xH:xa.length=xr.length+(BA e.sq.length).length:=by rw[xw,Yaa]
 have V:=GL e.sq.length ZbG xr ZbG;rw[<-xw]at V;obtain⟨xs,xx⟩:∃B,B=xa++e.sq.flatMap Kz:=⟨_,rfl⟩;have xI:xs.length=xa.length+(e.sq.flatMap Kz).length:=by rw[xx,Yaa]
 obtain⟨xc,xy⟩:∃B,B=xs++BA e.x.length:=⟨_,rfl⟩;have xJ:xc.length=xs.length+(BA e.x.length).length:=by rw[xy,Yaa]
 have xD:=GL e.x.length ZbG xs ZbG;rw[<-xy]at xD;obtain⟨xt,xz⟩:∃B,B=xc++e.x.flatMap Qp:=⟨_,rfl⟩;have xK:xt.length=xc.length+(e.x.flatMap Qp).length:=by rw[xz,Yaa]
 obtain⟨xC,xA⟩:∃B,B=xt++Fb e.b:=⟨_,rfl⟩;have xL:xC.length=xt.length+(Fb e.b).length:=by rw[xA,Yaa]
 have xE:=YP e.b h.b xt ZbG;rw[<-xA]at xE;have P:b++KC e=xC:=by rw[xA,xz,xy,xx,xw,xv,xu,xd,xj,xi,xh,xg,xf,xe,r,p,g];simp only[KC,Kg,Bt,Yaf]
 refine Dn func109 rfl (Ag func109 ZbK ZbK) rfl λw=>?_;rw[ntmps109];intro Z;apply Y1;refine Bx ?_;refine Wa<|Y0<|Ah ?_
 refine ER 0 5 1 (λd=>CR (([b,T,a,U,y]:List (List Nat)).getD d [])) 4 (some 0) (λk=>([3,6,9,12]:List Nat).getD k 0) [.o 0,.q (.ptr 2 0),.q (.d (ex (.int .i64 e.n))),.t 0,.q (.ptr 2 1),.q (.d (Ic e.cof)),.t 1,.q (.ptr 2 2),.q (.d (Ic e.g)),.t 2,.q (.ptr 2 3),.q (.d (Du e.o)),.t 3,.o 4] [[],[],[(12,1)],[(11,0),(13,2)],[],[(15,4)],[(14,3),(16,5)],[],[(18,7)],[(17,6),(19,8)],[],[(21,10)],[(20,9),(22,11)],[(23,12)]] [(3,.ptr 2 0)] [(0,.own 0),(3,.ptr 2 0)] ZbK rfl ⟨rfl,trivial⟩ (λ_ h=>by cases h;rfl) (by refine CSteps.s ?_;refine ET ?_;refine ET ?_;refine Ox (q) ?_;refine ET ?_;refine ET ?_;refine Ox (A) ?_;refine ET ?_;refine ET ?_;refine Ox (K) ?_;refine ET ?_;refine ET ?_;refine Ox (Y) ?_;refine CSteps.s ?_;exact CSteps.nil) ZbK rfl ZbI ⟨rfl,rfl,trivial⟩ [.row 5 1 (CR (y)),.pin [],.var 46 ((DE e).map .d)] rfl ?_;refine Yn<|Ah ?_
 refine ER 0 5 1 (λd=>CR (([y,B5,B6,m]:List (List Nat)).getD d [])) 3 (some 0) (λk=>([3,6,9]:List Nat).getD k 0) [.o 0,.q (.ptr 2 4),.q (.d (Tu e.c)),.t 0,.q (.ptr 2 5),.q (.d (Tu e.q)),.t 1,.q (.ptr 2 6),.q (.d (Tu e.s)),.t 2,.o 3] [[],[],[(25,1)],[(24,0),(26,2)],[],[(28,4)],[(27,3),(29,5)],[],[(31,7)],[(30,6),(32,8)],[(33,9)]] [(3,.ptr 2 0)] [(0,.own 0),(3,.ptr 2 0)] ZbK rfl ⟨rfl,trivial⟩ (λ_ h=>by cases h;rfl) (by refine CSteps.s ?_;refine ET ?_;refine ET ?_;refine Ox (n) ?_;refine ET ?_;refine ET ?_;refine Ox (G) ?_;refine ET ?_;refine ET ?_;refine Ox (f) ?_;refine CSteps.s ?_;exact CSteps.nil) ZbK rfl ZbI ⟨rfl,rfl,trivial⟩ [.row 5 1 (CR (m)),.pin [],.var 46 ((DE e).map .d)] rfl ?_;refine Yn<|Ah<|Y1<|Wa<|Y0<|AWp.block ?_
 refine AF (λv c=>∃k,k<=8/\v=8-k/\c=⟨[(0,.own 0),(3,.ptr 2 0),(5,.d (ex (.int .i64 (k:Nat))))],[.row 5 1 (CR (m++DC (Bm) e.r.l k)),.pin [],.var 46 ((DE e).map .d)]⟩) ?le ⟨0,by omega,rfl,rfl⟩ ?round
 case le=>exact Ac Zce Zdb
 case round=>
  rintro v _ ⟨k,C,rfl,rfl⟩;by_cases O:k<8
  .have C:=Gg (Bm) e.r.l O
   have x:(DC (Bm) e.r.l 8).length=(Fy e.r.l).length:=rfl;have F:=Fi (e.r.l k) (h.r.l k O) (m++DC (Bm) e.r.l k) Zca;refine Ah<|Y1<|Wm ?_;refine Wq Bc ?_;refine Y0<|Ct<|Ys<|Ah<|AWp.block<|AWp.region<|Wm<|Wm ?_;refine Wq AC ?_;refine Wq AC ?_;refine Wq (MV (k:=k) (ao rfl) (ao rfl) (Aa rfl) (Aa rfl) O) ?_;refine Wq (Mi (ao rfl) rfl (Aa rfl) rfl (ZC O)) ?_
   exact Zbm
  .obtain rfl:k=8:=by omega
   rw[show m++DC (Bm) e.r.l 8=B8 from xi.symm];refine Ah<|Y1<|Wm ?_;refine Wq AO ?_;refine Y0<|Cf<|Cg<|BD<|BS<|BI<|Yn<|Y1<|Wm ?_;refine Wq AC ?_;refine Wq AC ?_;refine Wq Ao ?_
   refine Cy [0] (N) rfl ZbI rfl ZbF ZbD ZbL ZbB rfl ?_;rintro _ _ ⟨rfl,rfl⟩;refine Kr ?_;refine Bk (σ':=⟨[(3,.ptr 2 0),(49,.own 0)],[.row 5 1 (CR (z)),.pin [],.var 46 ((DE e).map .d)]⟩) ?_ ?_
   .exact Ac Zdk Zdc
   refine Wa<|Y0<|Ah<|Y1<|Wa<|Y0<|AWp.block ?_
   refine AF (λv c=>∃k,k<=8/\v=8-k/\c=⟨[(0,.own 0),(3,.ptr 2 0),(6,.d (ex (.int .i64 (k:Nat))))],[.row 5 1 (CR (z++DC (GF) e.r.r k)),.pin [],.var 46 ((DE e).map .d)]⟩) ?le ⟨0,by omega,rfl,rfl⟩ ?round
   case le=>exact Ac Zce Zdb
   case round=>
    rintro v _ ⟨k,C,rfl,rfl⟩;by_cases O:k<8
    .have C:=Gg (GF) e.r.r O
     have x:(DC (GF) e.r.r 8).length=(Jx GF e.r.r).length:=rfl;have F:=Xl (e.r.r k) (h.r.r k O) (z++DC (GF) e.r.r k) Zca;refine Ah<|Y1<|Wm ?_;refine Wq Bc ?_;refine Y0<|Ct<|Ys<|Ah<|AWp.block<|AWp.region<|Wm<|Wm ?_;refine Wq AC ?_;refine Wq AC ?_;refine Wq (MV (k:=k) (ao rfl) (ao rfl) (Aa rfl) (Aa rfl) O) ?_;refine Wq (Mi (ao rfl) rfl (Aa rfl) rfl (ZB O)) ?_
     exact Zbm
    .obtain rfl:k=8:=by omega
     rw[show z++DC (GF) e.r.r 8=xb from xd.symm];refine Ah<|Y1<|Wm ?_;refine Wq AO ?_;refine Y0<|Cf<|Cg<|BD<|BS<|BI<|Yn<|Y1<|Wm ?_;refine Wq AC ?_;refine Wq Ao ?_;refine Wq (Bj rfl (Aa rfl)) ?_;refine Wq (AP (r:=((e.a.length:Nat):Int)) (ao rfl) (Aa rfl) (Aa rfl) (ES ZbG)) ?_
     refine Cy [0] (S) rfl ZbI rfl ZbF ZbD ZbL ZbB rfl ?_;rintro _ _ ⟨rfl,rfl⟩;refine Kr ?_;refine Bk (σ':=⟨[(3,.ptr 2 0),(66,.own 0)],[.row 5 1 (CR (R)),.pin [],.var 46 ((DE e).map .d)]⟩) ?_ ?_
     .exact Ac Zdk Zdc
     refine Wa<|Y0<|Ah<|Y1<|Wa<|Y0<|AWp.block ?_
     refine AF (λv c=>∃k,k<=e.a.length/\v=e.a.length-k/\c=⟨[(0,.own 0),(3,.ptr 2 0),(7,.d (ex (.int .i64 (k:Nat))))],[.row 5 1 (CR (R++(e.a.take k).flatMap GO)),.pin [],.var 46 ((DE e).map .d)]⟩) ?le ⟨0,by omega,rfl,rfl⟩ ?round
     case le=>exact Ac Zce ZcU
     case round=>
      rintro v _ ⟨k,C,rfl,rfl⟩;by_cases O:k<e.a.length
      .have C:=Dg GO O
       obtain⟨t,L⟩:∃t,t=e.a.getD k default:=⟨_,rfl⟩;have i:=h.a _ (BF O);rw[<-L]at C i;have I:(GO t).length=(CG t.1).length+(CG t.2).length:=by rw[GO,Yaa]
       have g0:=EV t.1 i.1 (R++(e.a.take k).flatMap GO) Zca;have o:=EV t.2 i.2 (R++(e.a.take k).flatMap GO++CG t.1) Zca;refine Ah<|Y1<|Wm ?_;refine Wq AC ?_;refine Wq Ao ?_;refine Wq (Bj rfl (Aa rfl)) ?_;refine Wq Bc ?_;refine Y0<|Ct<|Ys<|Ah<|AWp.block ?_
       refine ER 0 5 1 (λd=>CR (([R++(e.a.take k).flatMap GO,R++(e.a.take k).flatMap GO++CG t.1,R++(e.a.take k).flatMap GO++CG t.1++CG t.2]:List (List Nat)).getD d [])) 2 (some 0) (λk=>([7,14]:List Nat).getD k 0) [.o 0,.q (.ptr 2 24),.q (.d (VS e.a)),.q (.d (ex (.int .i64 (k:Nat)))),.q (.d (Fg 129 (Jk t))),.q (.d (Fg 129 ((Jk t).drop 0))),.q (.d (AQ (Hl t.1))),.t 0,.q (.ptr 2 24),.q (.d (VS e.a)),.q (.d (ex (.int .i64 (k:Nat)))),.q (.d (Fg 129 (Jk t))),.q (.d (Fg 129 ((Jk t).drop 4))),.q (.d (AQ (Hl t.2))),.t 1,.o 2] [[],[],[(75,1)],[],[(76,2),(77,3)],[(78,4)],[(79,5)],[(74,0),(80,6)],[],[(82,8)],[],[(83,9),(84,10)],[(85,11)],[(86,12)],[(81,7),(87,13)],[(88,14)]] [(3,.ptr 2 0),(7,.d (ex (.int .i64 (k:Nat))))] [(0,.own 0),(3,.ptr 2 0),(7,.d (ex (.int .i64 (k:Nat))))] ZbK rfl ⟨rfl,rfl,trivial⟩ (λ_ h=>by cases h;rfl) ZcS ZbK rfl ZbI ⟨rfl,rfl,rfl,trivial⟩ [.row 5 1 (CR (R++(e.a.take k).flatMap GO++CG t.1++CG t.2)),.pin [],.var 46 ((DE e).map .d)] rfl ?_;refine Bi<|Yn<|AWp.region<|Wm ?_;refine Wq CJ ?_;refine Wa<|AWl.nil ?_
       refine Ai (e.a.length-(k+1)) ZbG ⟨k+1,by omega,rfl,rfl⟩ ?_;exact Ac Zce (by(refine HpLe.cons (OwLe.row (by rw[Cm GO O,<-L,GO];simp only[Yaf])) ?_);exact HpLe.cons (Ak rfl)<|HpLe.cons (Ad rfl)<|HpLe.nil)
      .obtain rfl:k=e.a.length:=by omega
       rw[YaT,<-xv];refine Ah<|Y1<|Wm ?_;refine Wq AC ?_;refine Wq Ao ?_;refine Wq (Bj rfl (Aa rfl)) ?_;refine Wq AO ?_;refine Y0<|Cf<|Cg<|BD<|BS<|BI<|Yn<|Y1<|Wm ?_;refine Wq AC ?_;refine Wq Ao ?_;refine Wq (Bj rfl (Aa rfl)) ?_;refine Wq (AP (r:=((e.sq.length:Nat):Int)) (ao rfl) (Aa rfl) (Aa rfl) (ES ZbG)) ?_
       refine Cy [0] (V) rfl ZbI rfl ZbF ZbD ZbL ZbB rfl ?_;rintro _ _ ⟨rfl,rfl⟩;refine Kr ?_;refine Bk (σ':=⟨[(3,.ptr 2 0),(94,.own 0)],[.row 5 1 (CR (xa)),.pin [],.var 46 ((DE e).map .d)]⟩) ?_ ?_
       .exact Ac Zdk Zdc
       refine Wa<|Y0<|Ah<|Y1<|Wa<|Y0<|AWp.block ?_
       refine AF (λv c=>∃k,k<=e.sq.length/\v=e.sq.length-k/\c=⟨[(0,.own 0),(3,.ptr 2 0),(8,.d (ex (.int .i64 (k:Nat))))],[.row 5 1 (CR (xa++(e.sq.take k).flatMap Kz)),.pin [],.var 46 ((DE e).map .d)]⟩) ?le ⟨0,by omega,rfl,rfl⟩ ?round
       case le=>exact Ac Zce ZcU
       case round=>
        rintro v _ ⟨k,C,rfl,rfl⟩;by_cases O:k<e.sq.length
        .have C:=Dg Kz O
         obtain⟨t,L⟩:∃t,t=e.sq.getD k default:=⟨_,rfl⟩;have i:=h.sq _ (BF O);rw[<-L]at C i;have I:(Kz t).length=(CG t.1).length+(Cp t.2).length:=by rw[Kz,Yaa]
         have g0:=EV t.1 i.1 (xa++(e.sq.take k).flatMap Kz) Zca;have o:=QK t.2 i.2 (xa++(e.sq.take k).flatMap Kz++CG t.1) Zca;refine Ah<|Y1<|Wm ?_;refine Wq AC ?_;refine Wq Ao ?_;refine Wq (Bj rfl (Aa rfl)) ?_;refine Wq Bc ?_;refine Y0<|Ct<|Ys<|Ah<|AWp.block ?_
         refine ER 0 5 1 (λd=>CR (([xa++(e.sq.take k).flatMap Kz,xa++(e.sq.take k).flatMap Kz++CG t.1,xa++(e.sq.take k).flatMap Kz++CG t.1++Cp t.2]:List (List Nat)).getD d [])) 2 (some 0) (λk=>([7,14]:List Nat).getD k 0) [.o 0,.q (.ptr 2 25),.q (.d (Vk e.sq)),.q (.d (ex (.int .i64 (k:Nat)))),.q (.d (Fg 184 (Jv t))),.q (.d (Fg 184 ((Jv t).drop 0))),.q (.d (AQ (Hl t.1))),.t 0,.q (.ptr 2 25),.q (.d (Vk e.sq)),.q (.d (ex (.int .i64 (k:Nat)))),.q (.d (Fg 184 (Jv t))),.q (.d (Fg 184 ((Jv t).drop 4))),.q (.d (Kc t.2)),.t 1,.o 2] [[],[],[(103,1)],[],[(104,2),(105,3)],[(106,4)],[(107,5)],[(102,0),(108,6)],[],[(110,8)],[],[(111,9),(112,10)],[(113,11)],[(114,12)],[(109,7),(115,13)],[(116,14)]] [(3,.ptr 2 0),(8,.d (ex (.int .i64 (k:Nat))))] [(0,.own 0),(3,.ptr 2 0),(8,.d (ex (.int .i64 (k:Nat))))] ZbK rfl ⟨rfl,rfl,trivial⟩ (λ_ h=>by cases h;rfl) ZcS ZbK rfl ZbI ⟨rfl,rfl,rfl,trivial⟩ [.row 5 1 (CR (xa++(e.sq.take k).flatMap Kz++CG t.1++Cp t.2)),.pin [],.var 46 ((DE e).map .d)] rfl ?_;refine Bi<|Yn<|AWp.region<|Wm ?_;refine Wq CJ ?_;refine Wa<|AWl.nil ?_
         refine Ai (e.sq.length-(k+1)) ZbG ⟨k+1,by omega,rfl,rfl⟩ ?_;exact Ac Zce (by(refine HpLe.cons (OwLe.row (by rw[Cm Kz O,<-L,Kz];simp only[Yaf])) ?_);exact HpLe.cons (Ak rfl)<|HpLe.cons (Ad rfl)<|HpLe.nil)
        .obtain rfl:k=e.sq.length:=by omega
         rw[YaT,<-xx];refine Ah<|Y1<|Wm ?_;refine Wq AC ?_;refine Wq Ao ?_;refine Wq (Bj rfl (Aa rfl)) ?_;refine Wq AO ?_;refine Y0<|Cf<|Cg<|BD<|BS<|BI<|Yn<|Y1<|Wm ?_;refine Wq AC ?_;refine Wq Ao ?_;refine Wq (Bj rfl (Aa rfl)) ?_;refine Wq (AP (r:=((e.x.length:Nat):Int)) (ao rfl) (Aa rfl) (Aa rfl) (ES ZbG)) ?_
         refine Cy [0] (xD) rfl ZbI rfl ZbF ZbD ZbL ZbB rfl ?_;rintro _ _ ⟨rfl,rfl⟩;refine Kr ?_;refine Bk (σ':=⟨[(3,.ptr 2 0),(122,.own 0)],[.row 5 1 (CR (xc)),.pin [],.var 46 ((DE e).map .d)]⟩) ?_ ?_
         .exact Ac Zdk Zdc
         refine Wa<|Y0<|Ah<|Y1<|Wa<|Y0<|AWp.block ?_
         refine AF (λv c=>∃k,k<=e.x.length/\v=e.x.length-k/\c=⟨[(0,.own 0),(3,.ptr 2 0),(9,.d (ex (.int .i64 (k:Nat))))],[.row 5 1 (CR (xc++(e.x.take k).flatMap Qp)),.pin [],.var 46 ((DE e).map .d)]⟩) ?le ⟨0,by omega,rfl,rfl⟩ ?round
         case le=>exact Ac Zce ZcU
         case round=>
          rintro v _ ⟨k,C,rfl,rfl⟩;by_cases O:k<e.x.length
          .have C:=Dg Qp O
           obtain⟨t,L⟩:∃t,t=e.x.getD k default:=⟨_,rfl⟩;have i:=h.x _ (BF O);rw[<-L]at C i;have l:(Qp t).length=(DC CG t 8).length:=rfl;refine Ah<|Y1<|Wm ?_;refine Wq AC ?_;refine Wq Ao ?_;refine Wq (Bj rfl (Aa rfl)) ?_;refine Wq Bc ?_;refine Y0<|Ct<|Ys<|Ah<|AWp.block<|Y1<|Wa<|Y0<|AWp.block ?_
           refine AF (λv c=>∃j,j<=8/\v=8-j/\c=⟨[(0,.own 0),(3,.ptr 2 0),(9,.d (ex (.int .i64 (k:Nat)))),(10,.d (ex (.int .i64 (j:Nat))))],[.row 5 1 (CR (xc++(e.x.take k).flatMap Qp++DC CG t j)),.pin [],.var 46 ((DE e).map .d)]⟩) ?lej ⟨0,by omega,rfl,rfl⟩ ?roundj
           case lej=>exact Ac ZeA Zdb
           case roundj=>
            rintro v _ ⟨j,W,rfl,rfl⟩;by_cases u:j<8
            .have s:=Gg CG t u
             have xm:=EV (t j) (i j u) (xc++(e.x.take k).flatMap Qp++DC CG t j) Zca;refine Ah<|Y1<|Wm ?_;refine Wq Bc ?_;refine Y0<|Ct<|Ys<|Ah<|AWp.block<|AWp.region<|Wm ?_;refine Wq AC ?_;refine Wq Ao ?_;refine Wm<|Wm ?_;refine Wq (IR (k:=k) rfl (ao rfl) (Aa rfl) (Aa rfl) rfl O L) ?_;refine Wq (Lw (k:=j) (ao rfl) (ao rfl) (Aa rfl) (Aa rfl) u) ?_;refine Wq (WR (ao rfl) (Aa rfl) rfl (A1h u)) ?_
             refine Cy [0] (xm) rfl ZbI rfl ZbF ZbD ZbL ZbB rfl ?_;rintro _ _ ⟨rfl,rfl⟩;refine Kr ?_;refine Wa<|AWl.nil<|Bi<|Yn<|AWp.region<|Wm ?_;refine Wq CJ ?_;refine Wa<|AWl.nil ?_
             refine Ai (8-(j+1)) ZbG ⟨j+1,by omega,rfl,rfl⟩ ?_;exact Ac ZeA ZdU
            .obtain rfl:j=8:=by omega
             refine Ah<|Y1<|Wm ?_;refine Wq AO ?_;refine Y0<|Cf<|Cg<|BD<|BS<|BI<|Bi<|Yn<|AWp.region<|Wm ?_;refine Wq CJ ?_;refine Wa<|AWl.nil ?_
             refine Ai (e.x.length-(k+1)) ZbG ⟨k+1,by omega,rfl,rfl⟩ ?_;exact Ac Zce (by(refine HpLe.cons (OwLe.row (by rw[Cm Qp O,<-L,<-Yaf];rfl)) ?_);exact HpLe.cons (Ak rfl)<|HpLe.cons (Ad rfl)<|HpLe.nil)
          .obtain rfl:k=e.x.length:=by omega
           rw[YaT,<-xz];refine Ah<|Y1<|Wm ?_;refine Wq AC ?_;refine Wq Ao ?_;refine Wq (Bj rfl (Aa rfl)) ?_;refine Wq AO ?_;refine Y0<|Cf<|Cg<|BD<|BS<|BI<|Yn<|Y1<|Wm ?_;refine Wq AC ?_;refine Wq Ao ?_
           refine Cy [0] (xE) rfl ZbI rfl ZbF ZbD ZbL ZbB rfl ?_;rintro _ _ ⟨rfl,rfl⟩;refine Kr ?_;refine Wa<|Y0<|BV ?_
           exact Zbl
theorem A2l(f:Fct)(h:FW f)(I:(Er f).length<=1000000000000):Abs prog 47 [AQ (Eb f)] (Hf 5 (Er f)):=by
 simp only[Er,Yaa]at I;have d:=Wj f.k h.k [] ZiB;have q:=A5Z f.c h.c (FV f.k) ZbG;have A:=A80 f.e h.e (FV f.k++IN f.c) Zdy;refine Ab func47 λw=>?_;rw[ntmps47];apply Y1;refine Bx ?_;refine Wa<|Y0<|Ah ?_
 refine Mn 5 1 rfl rfl rfl ?_;refine ER 1 5 1 (λn=>CR (([[],[],FV f.k,FV f.k++IN f.c,FV f.k++IN f.c++KC f.e]:List (List Nat)).getD n [])) 4 none (λk=>([0,3,6,9]:List Nat).getD k 0) [.t 0,.q (.ptr 0 0),.q (.d (AQ (Ec f.k))),.t 1,.q (.ptr 0 3),.q (.d (AQ (ED f.c))),.t 2,.q (.ptr 0 12),.q (.d (AQ (DE f.e))),.t 3,.o 4] [[],[],[(4,1)],[(3,0),(5,2)],[],[(7,4)],[(6,3),(8,5)],[],[(10,7)],[(9,6),(11,8)],[(12,9)]] [(1,.ptr 0 0)] [(2,.own 1)] ZbK rfl ⟨rfl,trivial⟩ (λ_ h=>by cases h) (by refine CSteps.m (Aa rfl) (Aa rfl) rfl rfl rfl rfl ?_;refine ET ?_;refine ET ?_;refine Ox (d) ?_;refine ET ?_;refine ET ?_;refine Ox (q) ?_;refine ET ?_;refine ET ?_;refine Ox (A) ?_;refine CSteps.s ?_;exact CSteps.nil) ZbK rfl ZbI ⟨rfl,trivial⟩ [.var 48 ((Eb f).map .d),.row 5 1 (CR (FV f.k++IN f.c++KC f.e))] rfl ?_;exact Zfx
theorem UX(f g:Fct)(A:FW f)(T:FW g)(H:(Er f).length<=1000000000000)(P:(Er g).length<=1000000000000):Abs prog 13 [AQ (Eb f),AQ (Eb g)] (ex (.bool (decide (Er f=Er g)))):=by
 have K:=A2l f A H;have B:=A2l g T P;obtain⟨⟨n,e,p⟩,c,x⟩:=f;obtain⟨⟨q,I,s⟩,k,G⟩:=g;refine Ab func13 λw=>?_;rw[ntmps13];refine Go ?_;refine Dy 7 ?_;refine Dw ?_;refine⟨_,HStep.q rfl (EO (l:=Er ⟨⟨n,e,p⟩,c,x⟩) rfl (Aa rfl) (Aa rfl) (Aa rfl)),?_⟩;refine Dw ?_;refine Xq (EO (l:=Er ⟨⟨q,I,s⟩,k,G⟩) rfl (Aa rfl) (Aa rfl) (Aa rfl)) ?_;refine⟨_,HStep.q rfl (JZ (b:=Er ⟨⟨n,e,p⟩,c,x⟩) (c:=Er ⟨⟨q,I,s⟩,k,G⟩) rfl rfl (Pb _) (Pb _)),?_⟩;exact Zhb
