/- Part 24. No condition. -/
import Derived.Test.YtcikkglcoeedlaaGreatDf18
import Derived.Test.YtcikkglcoeedlaaGreatDf21
import Derived.Test.YtcikkglcoeedlaaGreatDf23
set_option linter.unusedSimpArgs false
set_option linter.unusedVariables false
set_option maxRecDepth 100000
namespace Go.Proofs.YtcikkglcoeedlaaGreat
open _root_.Go.Proofs.Tryz
open Go.RowKit
variable{l h vo:List Nat}{H:List Ow}{uU:List RQ}{e:Type}{vv:List e}{n b T:Nat}{vh:Nat->Int}{vz:Operand->AV}{vT:Rd e}{uG:Type}{vP:e}
theorem A9n(A:n<2^T)(x:n+b*2^T<18446744073709551616):IntKind.u64.wrap ((BitVec.ofInt IntKind.u64.bits ((n:Nat):Int) ||| BitVec.ofInt IntKind.u64.bits ((b*2^T:Nat):Int)).toNat)=((n+b*2^T:Nat):Int):=by
 have q:(BitVec.ofInt IntKind.u64.bits ((n:Nat):Int))=BitVec.ofNat 64 n:=rfl;have y:(BitVec.ofInt IntKind.u64.bits ((b*2^T:Nat):Int))=BitVec.ofNat 64 (b*2^T):=rfl;rw[q,y];show IntKind.u64.wrap (((BitVec.ofNat 64 n ||| BitVec.ofNat 64 (b*2^T)).toNat:Nat):Int)=_;rw[Yea,Ycy,Ycy,YaS ZbG,YaS ZbG];have h:=YcA A b;rw[YdP]at h;rw[Nat.or_comm,<-h,ES ZbG];omega
theorem A4P(h:n*2^b<18446744073709551616):IntKind.u64.wrap ((n:Nat)*2^b:Int)=((n*2^b:Nat):Int):=by
 have e:((n:Nat):Int)*2^b=((n*2^b:Nat):Int):=by push_cast;rfl
 rw[e,ES ZbG]
theorem A7e:IntKind.u64.wrap ((n:Nat)*2^b:Int)=((n*2^b%18446744073709551616:Nat):Int):=by
 have e:((n:Nat):Int)*2^b=((n*2^b:Nat):Int):=by push_cast;rfl
 rw[e,IntKind.wrap_u64];omega
theorem A5n(k s n:Nat):Qr k s n []=none:=by cases k<;>rfl
theorem DJ:Rdr 260 (λn:Nat=>ex (.int .u64 (n:Nat))) Qq:=Rdr.intro λT l I=>by
 refine Bu func260 rfl (Ag func260 ZbK ZbK) rfl λw O=>?_;rw[ntmps260];refine Go ?_;refine AF (λv E=>∃i n V,i<=10/\v=10-i/\n<2^(7*i)/\Byt V/\Qr (10-i) (2^(7*i)) n V=Qq l/\E=⟨[(0,.ptr 0 0),(3,.d (ex (.int .u64 (n:Nat)))),(4,.d (ex (.int .i64 ((7*i:Nat):Int))))],[.var 92 [.d (Hf T V)],.pin [(O,.own 0)]]⟩) ?le ⟨0,0,l,by omega,rfl,by decide,I,rfl,rfl⟩ ?round
 case le=>exact Ac Zck ZeD
 case round=>
  rintro v _ ⟨i,n,V,J,rfl,h,Y,a,rfl⟩;by_cases f:i<10
  .obtain ⟨k, B⟩:∃k, 10-i=k+1:=⟨9-i, by omega⟩
   rw[B]at a;have X:=A27 T V Y 1 ZbL;refine Go ?_;refine Bd [0] [] [] (X) (BX rfl) (λM=>(by repeat (first | exact AN (by rw[<-a,List.length_eq_zero_iff.1 (show V.length=0 by omega),A5n]) | apply AH | apply PanQ.block | apply PanQ.loop):PanQ _ _) _) rfl rfl ZbF ZbD ZbL ZbB ZbH trivial rfl ?_;rintro _ _ ⟨q,rfl,rfl⟩;refine Kr ?_
   obtain⟨c,j,rfl⟩:∃c j,V=c::j:=by
    cases V with
    |nil=>simp at q
    |cons c j=>exact⟨c,j,rfl⟩
   have F:=Y.lt c Ybp;have S:Byt j:=Y.drop 1;rw[Qr]at a
   dsimp only at a
   obtain⟨m,L⟩:∃m,m=c%128:=⟨_,rfl⟩;rw[<-L]at a;have G:0<2^(7*i):=Yeg ZbL;refine Wq A3S ?_;refine Wq AT ?_;refine Wq (AP (r:=((c:Nat):Int)) (ao rfl) (Aa rfl) (Aa rfl) (ES ZbG)) ?_;refine Wa<|Y0<|Y1<|Wm ?_;refine Wq (Mf (r:=((m:Nat):Int)) (ao rfl) (ao rfl) ZbL Zdd) ?_;refine Wa<|Y0<|Ah<|Y1<|Wm<|Wm ?_
   by_cases K:18446744073709551616<=m*2^(7*i)
   .rw [Yan K]at a
    obtain⟨x,C⟩:∃x,x=m*2^(7*i)%18446744073709551616:=⟨_,rfl⟩;obtain⟨y,N⟩:∃y,y=x/2^(7*i):=⟨_,rfl⟩
    have Q:y≠m:=λe=>by
     have A:y*2^(7*i)<=x:=by rw[N];exact Nat.div_mul_le_self _ _
     rw[e]at A;omega
    refine Wq (Me (n:=7*i) (r:=((x:Nat):Int)) (ao rfl) (ao rfl) (Ybx Zea) (by rw[A7e,C])) ?_;refine Wm ?_;refine Wq (Ey (n:=7*i) (r:=((y:Nat):Int)) (ao rfl) (ao rfl) (Ybx Zea) (by rw[EX rfl,N])) ?_;refine Zhd ?_;exact ZgU
   .rw [Yai K]at a
    obtain⟨x,C⟩:∃x,x=m*2^(7*i):=⟨_,rfl⟩;have N:x/2^(7*i)=m:=by rw[C,Nat.mul_div_cancel _ G]
    have g:m<128:=by omega
    have Z:2^(7*(i+1))=2^(7*i)*128:=by rw[YaE,YcG]
    have b:x+2^(7*i)<=2^(7*(i+1)):=by
     rw[Z,C];have:(m+1)*2^(7*i)<=128*2^(7*i):=YaX ZbG (Yah _);rw[YbG,YcB]at this;omega
    have o:n+x<18446744073709551616:=by
     rcases YaD i 9 with W | W
     .have:2^(7*(i+1))<=2^63:=Ybn ZbL ZbG
      omega
     .obtain rfl:i=9:=by omega
      omega
    rw[<-C]at a;refine Wq (Me (n:=7*i) (r:=((x:Nat):Int)) (ao rfl) (ao rfl) (Ybx Zea) (by rw[C];exact A4P ZbG)) ?_;refine Wm ?_;refine Wq (Ey (n:=7*i) (r:=((m:Nat):Int)) (ao rfl) (ao rfl) (Ybx Zea) (by rw[EX rfl,N])) ?_;refine Go ?_;refine Wq (Me (n:=7*i) (r:=((x:Nat):Int)) (ao rfl) (ao rfl) (Ybx Zea) (by rw[C];exact A4P ZbG)) ?_;refine Wq (WN (r:=((n+x:Nat):Int)) (ao rfl) (ao rfl) (by rw[C];exact A9n h ZbG)) ?_;refine Go ?_;by_cases d:c<128
    .rw [Yan d]at a
     refine Go ?_;refine FinP.ret (RetsA.one rfl) rfl ?_ rfl;exact⟨_,_,a.symm,S,rfl,rfl⟩
    .rw [Yai d]at a
     refine Go ?_;refine Ai (10-(i+1)) ZbG ⟨i+1,n+x,j,by omega,rfl,by omega,S,by rw[<-a,Z,show 10-(i+1)=k by omega],rfl⟩ ?_;exact Ac Zck ZeD
  .obtain rfl:i=10:=by omega
   refine Zhd ?_;exact ZgU
def G0:Lg:=⟨Qq,λn=>decide (n<=65535)⟩
theorem XV:∀(k j n:Nat) (l:List Nat) (x:Nat) (J:List Nat),j+7*k=70->n<2^j->Qr k (2^j) n l=some (x,J)->x<18446744073709551616
 |0,_,_,_,_,_,_,_,h=>by cases h
 |k+1,j,n,[],_,_,_,_,h=>by cases h
 |k+1,j,n,c::l,x,J,W,B,h=>by
  rw[Qr]at h
  dsimp only at h
  split at h
  .cases h
  .rename_i m
   have G:2^(64-j)*2^j=18446744073709551616:=by rw[<-YcG,show 64-j+j=64 by omega]
   have q:c%128<2^(64-j):=by
    rcases YaD (c%128) (2^(64-j))with h | h
    .exact h
    .have:=YaC (2^j) h
     omega
   have A:(c%128+1)*2^j<=2^(64-j)*2^j:=YaC _ q;rw[YbG,YcB,G]at A;split at h
   .cases h
    omega
   .rw [show 2^j*128=2^(j+7) by rw [YcG]] at h
    refine XV k (j+7) _ l x J ZbG ?_ h;have K:(c%128+1)*2^j<=128*2^j:=YaC _ ZbG;rw[YbG,YcB]at K;rw[YcG];omega
theorem FM(q:Qq l=some (n,h)):n<18446744073709551616:=XV 10 0 0 l n h rfl ZbL q
theorem Rd.none{p:Rd e}{f:e->Rd uG}(h:p l=.none):p.bind f l=.none:=by rw[Rd.bind,h]
theorem Rd.some{p:Rd e}{f:e->Rd uG}{l l':List Nat}{a:e}(h:p l=.some (a,l')):p.bind f l=f a l':=by rw[Rd.bind,h]
theorem Gy:Rdr 183 (λz:Int=>ex (.int .i64 z)) (IU G0):=Rdr.intro λT l I=>by
 have F:=DJ T l I;refine Bu func183 rfl (Ag func183 ZbK ZbK) rfl λw x=>?_;rw[ntmps183];refine Zfz ?_;rintro _ _ ⟨n,J,q,A,rfl,rfl⟩;refine Kr ?_;have B:=FM q;have M:IU G0 l=some (if n%2=0 then((n/2:Nat):Int)else -((n/2:Nat):Int)-1,J):=Rd.some q;by_cases h:n%2=0
 .rw [Yan h]at M
  refine Wa<|Y0<|Ah<|Y1<|Wm ?_;refine Wq (Mf (r:=((n%2:Nat):Int)) (ao rfl) (ao rfl) ZbL Zdd) ?_;refine Wq Bc ?_;refine Y0<|Ct<|Y1<|Wm ?_;refine Wq (GU (r:=((n/2:Nat):Int)) (ao rfl) (ao rfl) ZbL ZcQ) ?_;refine Wq (AP (r:=((n/2:Nat):Int)) (ao rfl) (Aa rfl) (Aa rfl) ZeF) ?_;refine Wa<|Y0<|BV<|Dr ?_
  exact Ziq
 .rw [Yai h]at M
  refine Wa<|Y0<|Ah<|Y1<|Wm ?_;refine Wq (Mf (r:=((n%2:Nat):Int)) (ao rfl) (ao rfl) ZbL Zdd) ?_;refine Wq AO ?_;refine Y0<|Cf<|Ys<|Y1<|Wm ?_;refine Wq (GU (r:=((n/2:Nat):Int)) (ao rfl) (ao rfl) ZbL ZcQ) ?_;refine Wq (AP (r:=((n/2:Nat):Int)) (ao rfl) (Aa rfl) (Aa rfl) ZeF) ?_;refine Wq A0Y ?_;refine Wq A0X ?_;refine Wa<|Y0<|BV ?_
  exact Ziq
def Rdl{F:Type}(f X:FuncId)(d:List F->D)(p:Rd F):Prop:=∀(T:TypeId) l,Byt l->ConP prog f [.ptr 0 0,.fn (X+1000000) [0]] (rH T l) (λr H=>∃x J,Gz G0 p l=some (x,J)/\Byt J/\r=.d (d x)/\H=rH T J) rCh (Gz G0 p l=none)
theorem Rdl.intro{f X:FuncId}{d:List e->D}{p:Rd e}(h:∀(T:TypeId) l,Byt l->ConP prog f [.ptr 0 0,.fn (X+1000000) [0]] (rH T l) (λr H=>∃x J,Gz G0 p l=some (x,J)/\Byt J/\r=.d (d x)/\H.take 1=rH T J) rCh (Gz G0 p l=none)):Rdl f X d p:=λT l I=>(h T l I).cut λr H ⟨x,J,q,A,K,Y⟩=>by
 subst K;exact⟨rfl,RJ Y,x,J,q,A,rfl,Y⟩
theorem HA{p:Rd e}(h:Qq l=none):Gz G0 p l=none:=Rd.none h
theorem Hz{p:Rd e}(q:Qq l=some (n,h)):Gz G0 p l=if n<=h.length then Cq p n h else none:=by
 have q:G0.nat l=some (n,h):=q;unfold Gz;rw[Rd.some q];unfold KZ Rd.bind;by_cases A:n<=h.length
 .simp [A]
 .simp [A]
theorem DX{p:Rd e}(B:b<n)(q:Cq p n l=(Cq p (n-b) h).map λy=>(vv++y.1,y.2))(C:p h=some (vP,vo)):Cq p n l=(Cq p (n-(b+1)) vo).map λy=>((vv++[vP])++y.1,y.2):=by
 rw[q,show n-b=(n-(b+1))+1 by omega,Cq,Rd.some C];unfold Rd.bind
 cases Cq p (n-(b+1)) vo with
 |none=>rfl
 |some y=>simp[Cu]
theorem DY{p:Rd e}(B:b<n)(q:Cq p n l=(Cq p (n-b) h).map λy=>(vv++y.1,y.2))(C:p h=none):Cq p n l=none:=by
 rw[q,show n-b=(n-(b+1))+1 by omega,Cq,Rd.none C];rfl
theorem AaZ(Q:Rdr 183 (λx:Int=>ex (.int .i64 x)) (IU G0)):Rdl 187 183 (λL:List (Int)=>slD 3 1 (L.map (λz:Int=>[ex (.int .i64 z)]))) (IU G0):=Rdl.intro λT l I=>by
 have F:=DJ T l I;refine Bu func187 rfl (Ag func187 ZbK ZbK) rfl λw G=>?_;rw[ntmps187];refine Zfv ?_;rintro _ _ ⟨n,r,q,S,rfl,rfl⟩;refine Kr ?_;have h:=FM q;have C:=S.len;have M:=Hz (p:=(IU G0)) q;by_cases E:n<=r.length
 .rw [Yan E]at M
  refine Wa<|Y0<|Ah<|Y1<|Wm<|Wm ?_;refine Wq (Ca (ao rfl)) ?_;refine Wq AC ?_;refine Wq Cn ?_;refine Wq (DA (ao rfl) (Aa rfl)) ?_;refine Wq (AP (r:=((r.length:Nat):Int)) (ao rfl) (Aa rfl) (Aa rfl) (ES ZbG)) ?_;refine Wq AO ?_;refine Y0<|Cf<|Ys<|Y1<|Wa<|Y0<|Ah<|Y1<|Wm<|Wm<|Y0<|AWp.block ?_
  refine EG 6 3 1 rfl ZbL ZbL rfl rfl ?_;refine AF (λv c=>∃k A j,k<=n/\v=n-k/\A.length=k/\Byt j/\(Cq (IU G0) n r=(Cq (IU G0) (n-k) j).map λy=>(A++y.1,y.2))/\c=⟨[(0,.ptr 0 0),(1,.fn (183+1000000) [0]),(6,.own 2),(18,.d (ex (.int .u64 (n:Nat)))),(19,.d (ex (.int .u64 (k:Nat))))],[.var 92 [.d (Hf T j)],.pin [(G,.own 0)],.row 3 1 (A.map (λz:Int=>[ex (.int .i64 z)]))]⟩) ?le ⟨0,[],r,Yaw _,rfl,rfl,S,by cases Cq (IU G0) n r<;>rfl,rfl⟩ ?round
  case le=>exact Zkt
  case round=>
   rintro v _ ⟨k,A,j,B,rfl,Z,J,V,rfl⟩;by_cases O:k<n
   .have F:=Q T j J
    refine Zfw ?_;rintro _ _ ⟨x,g,K,H,rfl,rfl⟩;refine Kr ?_
    (refine Df rfl rfl ?_;(refine DG (Aa rfl) (Aa rfl) rfl rfl rfl rfl rfl ?_;(repeat ((first | refine⟨_,Az (ao rfl),?_⟩ | refine⟨_,Po rfl,?_⟩);refine⟨_,rfl,?_⟩));refine⟨_,rfl,?_⟩));(refine EB (r2:=[(λz:Int=>[ex (.int .i64 z)]) x]) (ao rfl) rfl rfl (Aa rfl) (Aa rfl) rfl rfl ZiB ZiB rfl ZbM rfl ?_);exact ZgR
   .exact Zbf
 .exact Zbg
theorem AaY(Q:Rdr 270 (λx:RQ=>AQ (Hl x)) (Hc G0)):Rdl 306 270 (λL:List (RQ)=>slD 111 4 (L.map Hl)) (Hc G0):=Rdl.intro λT l I=>by
 have F:=DJ T l I;refine Bu func306 rfl (Ag func306 ZbK ZbK) rfl λw G=>?_;rw[ntmps306];refine Zfv ?_;rintro _ _ ⟨n,r,q,S,rfl,rfl⟩;refine Kr ?_;have h:=FM q;have C:=S.len;have M:=Hz (p:=(Hc G0)) q;by_cases E:n<=r.length
 .rw [Yan E]at M
  refine Wa<|Y0<|Ah<|Y1<|Wm<|Wm ?_;refine Wq (Ca (ao rfl)) ?_;refine Wq AC ?_;refine Wq Cn ?_;refine Wq (DA (ao rfl) (Aa rfl)) ?_;refine Wq (AP (r:=((r.length:Nat):Int)) (ao rfl) (Aa rfl) (Aa rfl) (ES ZbG)) ?_;refine Wq AO ?_;refine Y0<|Cf<|Ys<|Y1<|Wa<|Y0<|Ah<|Y1<|Wm<|Wm<|Y0<|AWp.block ?_
  refine EG 6 111 4 rfl ZbL ZbL rfl rfl ?_;refine AF (λv c=>∃k A j,k<=n/\v=n-k/\A.length=k/\Byt j/\(Cq (Hc G0) n r=(Cq (Hc G0) (n-k) j).map λy=>(A++y.1,y.2))/\c=⟨[(0,.ptr 0 0),(1,.fn (270+1000000) [0]),(6,.own 2),(18,.d (ex (.int .u64 (n:Nat)))),(19,.d (ex (.int .u64 (k:Nat))))],[.var 92 [.d (Hf T j)],.pin [(G,.own 0)],.row 111 4 (A.map Hl)]⟩) ?le ⟨0,[],r,Yaw _,rfl,rfl,S,by cases Cq (Hc G0) n r<;>rfl,rfl⟩ ?round
  case le=>exact Zkt
  case round=>
   rintro v _ ⟨k,A,j,B,rfl,Z,J,V,rfl⟩;by_cases O:k<n
   .have F:=Q T j J
    refine Zfw ?_;rintro _ _ ⟨x,g,K,H,rfl,rfl⟩;refine ZfQ ?_;(refine EB (r2:=[Hl x]) (ao rfl) rfl rfl (Aa rfl) (Aa rfl) rfl rfl ZiB ZiB rfl ZbM rfl ?_);exact ZgR
   .exact Zbf
 .exact Zbg
theorem A9f(Q:Rdr 263 (λx:RTm=>AQ (rtC x)) (JD G0)):Rdl 262 263 (λL:List (RTm)=>slD 114 12 (L.map rtC)) (JD G0):=Rdl.intro λT l I=>by
 have F:=DJ T l I;refine Bu func262 rfl (Ag func262 ZbK ZbK) rfl λw G=>?_;rw[ntmps262];refine Zfv ?_;rintro _ _ ⟨n,r,q,S,rfl,rfl⟩;refine Kr ?_;have h:=FM q;have C:=S.len;have M:=Hz (p:=(JD G0)) q;by_cases E:n<=r.length
 .rw [Yan E]at M
  refine Wa<|Y0<|Ah<|Y1<|Wm<|Wm ?_;refine Wq (Ca (ao rfl)) ?_;refine Wq AC ?_;refine Wq Cn ?_;refine Wq (DA (ao rfl) (Aa rfl)) ?_;refine Wq (AP (r:=((r.length:Nat):Int)) (ao rfl) (Aa rfl) (Aa rfl) (ES ZbG)) ?_;refine Wq AO ?_;refine Y0<|Cf<|Ys<|Y1<|Wa<|Y0<|Ah<|Y1<|Wm<|Wm<|Y0<|AWp.block ?_
  refine EG 6 114 12 rfl ZbL ZbL rfl rfl ?_;refine AF (λv c=>∃k A j,k<=n/\v=n-k/\A.length=k/\Byt j/\(Cq (JD G0) n r=(Cq (JD G0) (n-k) j).map λy=>(A++y.1,y.2))/\c=⟨[(0,.ptr 0 0),(1,.fn (263+1000000) [0]),(6,.own 2),(18,.d (ex (.int .u64 (n:Nat)))),(19,.d (ex (.int .u64 (k:Nat))))],[.var 92 [.d (Hf T j)],.pin [(G,.own 0)],.row 114 12 (A.map rtC)]⟩) ?le ⟨0,[],r,Yaw _,rfl,rfl,S,by cases Cq (JD G0) n r<;>rfl,rfl⟩ ?round
  case le=>exact Zkt
  case round=>
   rintro v _ ⟨k,A,j,B,rfl,Z,J,V,rfl⟩;by_cases O:k<n
   .have F:=Q T j J
    refine Zfw ?_;rintro _ _ ⟨x,g,K,H,rfl,rfl⟩;refine ZfQ ?_;(refine EB (r2:=[rtC x]) (ao rfl) rfl rfl (Aa rfl) (Aa rfl) rfl rfl ZiB ZiB rfl ZbM rfl ?_);exact ZgR
   .exact Zbf
 .exact Zbg
theorem A9g(Q:Rdr 185 (λx:List RTm=>Kc x) (HX G0)):Rdl 261 185 (λL:List (List RTm)=>slD 28 1 (L.map (λp=>[Kc p]))) (HX G0):=Rdl.intro λT l I=>by
 have F:=DJ T l I;refine Bu func261 rfl (Ag func261 ZbK ZbK) rfl λw G=>?_;rw[ntmps261];refine Zfv ?_;rintro _ _ ⟨n,r,q,S,rfl,rfl⟩;refine Kr ?_;have h:=FM q;have C:=S.len;have M:=Hz (p:=(HX G0)) q;by_cases E:n<=r.length
 .rw [Yan E]at M
  refine Wa<|Y0<|Ah<|Y1<|Wm<|Wm ?_;refine Wq (Ca (ao rfl)) ?_;refine Wq AC ?_;refine Wq Cn ?_;refine Wq (DA (ao rfl) (Aa rfl)) ?_;refine Wq (AP (r:=((r.length:Nat):Int)) (ao rfl) (Aa rfl) (Aa rfl) (ES ZbG)) ?_;refine Wq AO ?_;refine Y0<|Cf<|Ys<|Y1<|Wa<|Y0<|Ah<|Y1<|Wm<|Wm<|Y0<|AWp.block ?_
  refine EG 6 28 1 rfl ZbL ZbL rfl rfl ?_;refine AF (λv c=>∃k A j,k<=n/\v=n-k/\A.length=k/\Byt j/\(Cq (HX G0) n r=(Cq (HX G0) (n-k) j).map λy=>(A++y.1,y.2))/\c=⟨[(0,.ptr 0 0),(1,.fn (185+1000000) [0]),(6,.own 2),(18,.d (ex (.int .u64 (n:Nat)))),(19,.d (ex (.int .u64 (k:Nat))))],[.var 92 [.d (Hf T j)],.pin [(G,.own 0)],.row 28 1 (A.map (λp=>[Kc p]))]⟩) ?le ⟨0,[],r,Yaw _,rfl,rfl,S,by cases Cq (HX G0) n r<;>rfl,rfl⟩ ?round
  case le=>exact Zkt
  case round=>
   rintro v _ ⟨k,A,j,B,rfl,Z,J,V,rfl⟩;by_cases O:k<n
   .have F:=Q T j J
    refine Zfw ?_;rintro _ _ ⟨x,g,K,H,rfl,rfl⟩;refine Kr ?_
    (refine Df rfl rfl ?_;(refine DG (Aa rfl) (Aa rfl) rfl rfl rfl rfl rfl ?_;(repeat ((first | refine⟨_,Az (ao rfl),?_⟩ | refine⟨_,Po rfl,?_⟩);refine⟨_,rfl,?_⟩));refine⟨_,rfl,?_⟩));(refine EB (r2:=[(λp=>[Kc p]) x]) (ao rfl) rfl rfl (Aa rfl) (Aa rfl) rfl rfl ZiB ZiB rfl ZbM rfl ?_);exact ZgR
   .exact Zbf
 .exact Zbg
theorem A7j(Q:Rdr 184 (λx:List (List RTm)=>Ic x) (EY G0)):Rdl 268 184 (λL:List (List (List RTm))=>slD 24 1 (L.map (λp=>[Ic p]))) (EY G0):=Rdl.intro λT l I=>by
 have F:=DJ T l I;refine Bu func268 rfl (Ag func268 ZbK ZbK) rfl λw G=>?_;rw[ntmps268];refine Zfv ?_;rintro _ _ ⟨n,r,q,S,rfl,rfl⟩;refine Kr ?_;have h:=FM q;have C:=S.len;have M:=Hz (p:=(EY G0)) q;by_cases E:n<=r.length
 .rw [Yan E]at M
  refine Wa<|Y0<|Ah<|Y1<|Wm<|Wm ?_;refine Wq (Ca (ao rfl)) ?_;refine Wq AC ?_;refine Wq Cn ?_;refine Wq (DA (ao rfl) (Aa rfl)) ?_;refine Wq (AP (r:=((r.length:Nat):Int)) (ao rfl) (Aa rfl) (Aa rfl) (ES ZbG)) ?_;refine Wq AO ?_;refine Y0<|Cf<|Ys<|Y1<|Wa<|Y0<|Ah<|Y1<|Wm<|Wm<|Y0<|AWp.block ?_
  refine EG 6 24 1 rfl ZbL ZbL rfl rfl ?_;refine AF (λv c=>∃k A j,k<=n/\v=n-k/\A.length=k/\Byt j/\(Cq (EY G0) n r=(Cq (EY G0) (n-k) j).map λy=>(A++y.1,y.2))/\c=⟨[(0,.ptr 0 0),(1,.fn (184+1000000) [0]),(6,.own 2),(18,.d (ex (.int .u64 (n:Nat)))),(19,.d (ex (.int .u64 (k:Nat))))],[.var 92 [.d (Hf T j)],.pin [(G,.own 0)],.row 24 1 (A.map (λp=>[Ic p]))]⟩) ?le ⟨0,[],r,Yaw _,rfl,rfl,S,by cases Cq (EY G0) n r<;>rfl,rfl⟩ ?round
  case le=>exact Zkt
  case round=>
   rintro v _ ⟨k,A,j,B,rfl,Z,J,V,rfl⟩;by_cases O:k<n
   .have F:=Q T j J
    refine Zfw ?_;rintro _ _ ⟨x,g,K,H,rfl,rfl⟩;refine Kr ?_
    (refine Df rfl rfl ?_;(refine DG (Aa rfl) (Aa rfl) rfl rfl rfl rfl rfl ?_;(repeat ((first | refine⟨_,Az (ao rfl),?_⟩ | refine⟨_,Po rfl,?_⟩);refine⟨_,rfl,?_⟩));refine⟨_,rfl,?_⟩));(refine EB (r2:=[(λp=>[Ic p]) x]) (ao rfl) rfl rfl (Aa rfl) (Aa rfl) rfl rfl ZiB ZiB rfl ZbM rfl ?_);exact ZgR
   .exact Zbf
 .exact Zbg
theorem AaX(Q:Rdr 265 (λx:Nat->Int=>AQ (CE x)) (TF G0)):Rdl 264 265 (λL:List (Nat->Int)=>slD 36 8 (L.map CE)) (TF G0):=Rdl.intro λT l I=>by
 have F:=DJ T l I;refine Bu func264 rfl (Ag func264 ZbK ZbK) rfl λw G=>?_;rw[ntmps264];refine Zfv ?_;rintro _ _ ⟨n,r,q,S,rfl,rfl⟩;refine Kr ?_;have h:=FM q;have C:=S.len;have M:=Hz (p:=(TF G0)) q;by_cases E:n<=r.length
 .rw [Yan E]at M
  refine Wa<|Y0<|Ah<|Y1<|Wm<|Wm ?_;refine Wq (Ca (ao rfl)) ?_;refine Wq AC ?_;refine Wq Cn ?_;refine Wq (DA (ao rfl) (Aa rfl)) ?_;refine Wq (AP (r:=((r.length:Nat):Int)) (ao rfl) (Aa rfl) (Aa rfl) (ES ZbG)) ?_;refine Wq AO ?_;refine Y0<|Cf<|Ys<|Y1<|Wa<|Y0<|Ah<|Y1<|Wm<|Wm<|Y0<|AWp.block ?_
  refine EG 6 36 8 rfl ZbL ZbL rfl rfl ?_;refine AF (λv c=>∃k A j,k<=n/\v=n-k/\A.length=k/\Byt j/\(Cq (TF G0) n r=(Cq (TF G0) (n-k) j).map λy=>(A++y.1,y.2))/\c=⟨[(0,.ptr 0 0),(1,.fn (265+1000000) [0]),(6,.own 2),(18,.d (ex (.int .u64 (n:Nat)))),(19,.d (ex (.int .u64 (k:Nat))))],[.var 92 [.d (Hf T j)],.pin [(G,.own 0)],.row 36 8 (A.map CE)]⟩) ?le ⟨0,[],r,Yaw _,rfl,rfl,S,by cases Cq (TF G0) n r<;>rfl,rfl⟩ ?round
  case le=>exact Zkt
  case round=>
   rintro v _ ⟨k,A,j,B,rfl,Z,J,V,rfl⟩;by_cases O:k<n
   .have F:=Q T j J
    refine Zfw ?_;rintro _ _ ⟨x,g,K,H,rfl,rfl⟩;refine ZfQ ?_;(refine EB (r2:=[CE x]) (ao rfl) rfl rfl (Aa rfl) (Aa rfl) rfl rfl ZiB ZiB rfl ZbM rfl ?_);exact ZgR
   .exact Zbf
 .exact Zbg
theorem AbP(Q:Rdr 192 (λx:RQ×RQ=>AQ (Jk x)) (VT G0)):Rdl 191 192 (λL:List (RQ×RQ)=>slD 129 8 (L.map Jk)) (VT G0):=Rdl.intro λT l I=>by
 have F:=DJ T l I;refine Bu func191 rfl (Ag func191 ZbK ZbK) rfl λw G=>?_;rw[ntmps191];refine Zfv ?_;rintro _ _ ⟨n,r,q,S,rfl,rfl⟩;refine Kr ?_;have h:=FM q;have C:=S.len;have M:=Hz (p:=(VT G0)) q;by_cases E:n<=r.length
 .rw [Yan E]at M
  refine Wa<|Y0<|Ah<|Y1<|Wm<|Wm ?_;refine Wq (Ca (ao rfl)) ?_;refine Wq AC ?_;refine Wq Cn ?_;refine Wq (DA (ao rfl) (Aa rfl)) ?_;refine Wq (AP (r:=((r.length:Nat):Int)) (ao rfl) (Aa rfl) (Aa rfl) (ES ZbG)) ?_;refine Wq AO ?_;refine Y0<|Cf<|Ys<|Y1<|Wa<|Y0<|Ah<|Y1<|Wm<|Wm<|Y0<|AWp.block ?_
  refine EG 6 129 8 rfl ZbL ZbL rfl rfl ?_;refine AF (λv c=>∃k A j,k<=n/\v=n-k/\A.length=k/\Byt j/\(Cq (VT G0) n r=(Cq (VT G0) (n-k) j).map λy=>(A++y.1,y.2))/\c=⟨[(0,.ptr 0 0),(1,.fn (192+1000000) [0]),(6,.own 2),(18,.d (ex (.int .u64 (n:Nat)))),(19,.d (ex (.int .u64 (k:Nat))))],[.var 92 [.d (Hf T j)],.pin [(G,.own 0)],.row 129 8 (A.map Jk)]⟩) ?le ⟨0,[],r,Yaw _,rfl,rfl,S,by cases Cq (VT G0) n r<;>rfl,rfl⟩ ?round
  case le=>exact Zkt
  case round=>
   rintro v _ ⟨k,A,j,B,rfl,Z,J,V,rfl⟩;by_cases O:k<n
   .have F:=Q T j J
    refine Zfw ?_;rintro _ _ ⟨x,g,K,H,rfl,rfl⟩;refine ZfQ ?_;(refine EB (r2:=[Jk x]) (ao rfl) rfl rfl (Aa rfl) (Aa rfl) rfl rfl ZiB ZiB rfl ZbM rfl ?_);exact ZgR
   .exact Zbf
 .exact Zbg
theorem AbN(Q:Rdr 194 (λx:RQ×List RTm=>AQ (Jv x)) (sqP G0)):Rdl 193 194 (λL:List (RQ×List RTm)=>slD 184 5 (L.map Jv)) (sqP G0):=Rdl.intro λT l I=>by
 have F:=DJ T l I;refine Bu func193 rfl (Ag func193 ZbK ZbK) rfl λw G=>?_;rw[ntmps193];refine Zfv ?_;rintro _ _ ⟨n,r,q,S,rfl,rfl⟩;refine Kr ?_;have h:=FM q;have C:=S.len;have M:=Hz (p:=(sqP G0)) q;by_cases E:n<=r.length
 .rw [Yan E]at M
  refine Wa<|Y0<|Ah<|Y1<|Wm<|Wm ?_;refine Wq (Ca (ao rfl)) ?_;refine Wq AC ?_;refine Wq Cn ?_;refine Wq (DA (ao rfl) (Aa rfl)) ?_;refine Wq (AP (r:=((r.length:Nat):Int)) (ao rfl) (Aa rfl) (Aa rfl) (ES ZbG)) ?_;refine Wq AO ?_;refine Y0<|Cf<|Ys<|Y1<|Wa<|Y0<|Ah<|Y1<|Wm<|Wm<|Y0<|AWp.block ?_
  refine EG 6 184 5 rfl ZbL ZbL rfl rfl ?_;refine AF (λv c=>∃k A j,k<=n/\v=n-k/\A.length=k/\Byt j/\(Cq (sqP G0) n r=(Cq (sqP G0) (n-k) j).map λy=>(A++y.1,y.2))/\c=⟨[(0,.ptr 0 0),(1,.fn (194+1000000) [0]),(6,.own 2),(18,.d (ex (.int .u64 (n:Nat)))),(19,.d (ex (.int .u64 (k:Nat))))],[.var 92 [.d (Hf T j)],.pin [(G,.own 0)],.row 184 5 (A.map Jv)]⟩) ?le ⟨0,[],r,Yaw _,rfl,rfl,S,by cases Cq (sqP G0) n r<;>rfl,rfl⟩ ?round
  case le=>exact Zkt
  case round=>
   rintro v _ ⟨k,A,j,B,rfl,Z,J,V,rfl⟩;by_cases O:k<n
   .have F:=Q T j J
    refine Zfw ?_;rintro _ _ ⟨x,g,K,H,rfl,rfl⟩;refine ZfQ ?_;(refine EB (r2:=[Jv x]) (ao rfl) rfl rfl (Aa rfl) (Aa rfl) rfl rfl ZiB ZiB rfl ZbM rfl ?_);exact ZgR
   .exact Zbf
 .exact Zbg
theorem AbO(Q:Rdr 196 (λx:Nat->RQ=>AQ (Mq x)) (ptP G0)):Rdl 195 196 (λL:List (Nat->RQ)=>slD 187 32 (L.map Mq)) (ptP G0):=Rdl.intro λT l I=>by
 have F:=DJ T l I;refine Bu func195 rfl (Ag func195 ZbK ZbK) rfl λw G=>?_;rw[ntmps195];refine Zfv ?_;rintro _ _ ⟨n,r,q,S,rfl,rfl⟩;refine Kr ?_;have h:=FM q;have C:=S.len;have M:=Hz (p:=(ptP G0)) q;by_cases E:n<=r.length
 .rw [Yan E]at M
  refine Wa<|Y0<|Ah<|Y1<|Wm<|Wm ?_;refine Wq (Ca (ao rfl)) ?_;refine Wq AC ?_;refine Wq Cn ?_;refine Wq (DA (ao rfl) (Aa rfl)) ?_;refine Wq (AP (r:=((r.length:Nat):Int)) (ao rfl) (Aa rfl) (Aa rfl) (ES ZbG)) ?_;refine Wq AO ?_;refine Y0<|Cf<|Ys<|Y1<|Wa<|Y0<|Ah<|Y1<|Wm<|Wm<|Y0<|AWp.block ?_
  refine EG 6 187 32 rfl ZbL ZbL rfl rfl ?_;refine AF (λv c=>∃k A j,k<=n/\v=n-k/\A.length=k/\Byt j/\(Cq (ptP G0) n r=(Cq (ptP G0) (n-k) j).map λy=>(A++y.1,y.2))/\c=⟨[(0,.ptr 0 0),(1,.fn (196+1000000) [0]),(6,.own 2),(18,.d (ex (.int .u64 (n:Nat)))),(19,.d (ex (.int .u64 (k:Nat))))],[.var 92 [.d (Hf T j)],.pin [(G,.own 0)],.row 187 32 (A.map Mq)]⟩) ?le ⟨0,[],r,Yaw _,rfl,rfl,S,by cases Cq (ptP G0) n r<;>rfl,rfl⟩ ?round
  case le=>exact Zkt
  case round=>
   rintro v _ ⟨k,A,j,B,rfl,Z,J,V,rfl⟩;by_cases O:k<n
   .have F:=Q T j J
    refine Zfw ?_;rintro _ _ ⟨x,g,K,H,rfl,rfl⟩;refine ZfQ ?_;(refine EB (r2:=[Mq x]) (ao rfl) rfl rfl (Aa rfl) (Aa rfl) rfl rfl ZiB ZiB rfl ZbM rfl ?_);exact ZgR
   .exact Zbf
 .exact Zbg
theorem Ab0(Q:Rdr 267 (λx:Nat->RQ×RQ=>AQ (Dv x)) (Wo G0)):Rdl 266 267 (λL:List (Nat->RQ×RQ)=>slD 131 64 (L.map Dv)) (Wo G0):=Rdl.intro λT l I=>by
 have F:=DJ T l I;refine Bu func266 rfl (Ag func266 ZbK ZbK) rfl λw G=>?_;rw[ntmps266];refine Zfv ?_;rintro _ _ ⟨n,r,q,S,rfl,rfl⟩;refine Kr ?_;have h:=FM q;have C:=S.len;have M:=Hz (p:=(Wo G0)) q;by_cases E:n<=r.length
 .rw [Yan E]at M
  refine Wa<|Y0<|Ah<|Y1<|Wm<|Wm ?_;refine Wq (Ca (ao rfl)) ?_;refine Wq AC ?_;refine Wq Cn ?_;refine Wq (DA (ao rfl) (Aa rfl)) ?_;refine Wq (AP (r:=((r.length:Nat):Int)) (ao rfl) (Aa rfl) (Aa rfl) (ES ZbG)) ?_;refine Wq AO ?_;refine Y0<|Cf<|Ys<|Y1<|Wa<|Y0<|Ah<|Y1<|Wm<|Wm<|Y0<|AWp.block ?_
  refine EG 6 131 64 rfl ZbL ZbL rfl rfl ?_;refine AF (λv c=>∃k A j,k<=n/\v=n-k/\A.length=k/\Byt j/\(Cq (Wo G0) n r=(Cq (Wo G0) (n-k) j).map λy=>(A++y.1,y.2))/\c=⟨[(0,.ptr 0 0),(1,.fn (267+1000000) [0]),(6,.own 2),(18,.d (ex (.int .u64 (n:Nat)))),(19,.d (ex (.int .u64 (k:Nat))))],[.var 92 [.d (Hf T j)],.pin [(G,.own 0)],.row 131 64 (A.map Dv)]⟩) ?le ⟨0,[],r,Yaw _,rfl,rfl,S,by cases Cq (Wo G0) n r<;>rfl,rfl⟩ ?round
  case le=>exact Zkt
  case round=>
   rintro v _ ⟨k,A,j,B,rfl,Z,J,V,rfl⟩;by_cases O:k<n
   .have F:=Q T j J
    refine Zfw ?_;rintro _ _ ⟨x,g,K,H,rfl,rfl⟩;refine ZfQ ?_;(refine EB (r2:=[Dv x]) (ao rfl) rfl rfl (Aa rfl) (Aa rfl) rfl rfl ZiB ZiB rfl ZbM rfl ?_);exact ZgR
   .exact Zbf
 .exact Zbg
def Suf{F:Type}(p:Rd F):Prop:=∀l x J,p l=some (x,J)->∃k,J=l.drop k
theorem Suf.byt(q:Suf vT)(G:vT l=some (vP,h))(I:Byt l):Byt h:=by
 obtain⟨k,rfl⟩:=q l vP h G;exact I.drop k
theorem JW:Suf (Cu vP):=λl x J h=>by cases h;exact⟨0,rfl⟩
theorem Suf.bind{p:Rd e}{f:e->Rd uG}(h:Suf p)(q:∀a,Suf (f a)):Suf (p.bind f):=λl x J C=>by
 unfold Rd.bind at C
 cases G:p l with
 |none=>rw[G]at C;cases C
 |some y=>
  obtain⟨a,r⟩:=y;rw[G]at C;obtain⟨k,rfl⟩:=h l a r G;obtain⟨j,rfl⟩:=q a _ x J C;exact⟨k+j,by rw[Ydj]⟩
theorem Suf.guard{c:List Nat->Bool}:Suf (KZ c):=λl x J h=>by
 unfold KZ at h;split at h
 .cases h;exact⟨0,rfl⟩
 .cases h
theorem Suf.rep{F:Type}{p:Rd F}(h:Suf p):∀n,Suf (Cq p n)
 |0=>JW
 |n+1=>h.bind λ_=>(Suf.rep h n).bind λ_=>JW
theorem XU:∀(k s n:Nat),Suf (Qr k s n)
 |0,_,_,_,_,_,h=>by cases h
 |k+1,s,n,[],_,_,h=>by cases h
 |k+1,s,n,c::l,x,J,h=>by
  rw[Qr]at h
  dsimp only at h
  split at h
  .cases h
  .split at h
   .cases h;exact⟨1,rfl⟩
   .obtain ⟨j,rfl⟩:=XU k _ _ l x J h
    exact⟨j+1,by simp⟩
theorem VM:Suf Qq:=XU 10 1 0
theorem A4t:Suf KF:=λl x J h=>by
 unfold KF at h;split at h
 .cases h;exact⟨4,rfl⟩
 .cases h
theorem Yi(h:Suf vT):Suf (Gz G0 vT):=Suf.bind VM λ_=>Suf.guard.bind λ_=>h.rep _
theorem VU:Suf (Sn G0):=Suf.bind VM λ_=>Suf.guard.bind λ_=>(A4t.rep _).bind λ_=>JW
theorem A20:Suf (Hc G0):=VU.bind λ_=>VU.bind λ_=>JW
theorem Rdr.con{f:FuncId}{d:e->D}(q:Rdr f d vT){T:TypeId}(I:Byt l)(G:vT l=some (vP,h)):Con prog f [.ptr 0 0] (rH T l) [] (λr H=>r=.d (d vP)/\H=rH T h):=
 ((q T l I).con (by rw [G]; exact fun q => by cases q)).mono fun r H ⟨B, j, A, _, K, Y⟩ => by
  rw[G]at A;cases A;exact⟨K,Y⟩
theorem As{P:Program}{o:Oper}{r:AV}(h:∃l,Quiet P H o vz l/\l=r):Quiet P H o vz r:=by
 obtain⟨l,q,rfl⟩:=h;exact q
theorem Ym(Q:Rdr 270 (λx:RQ=>AQ (Hl x)) (Hc G0)):Rdr 192 (λx:RQ×RQ=>AQ (Jk x)) (VT G0):=Rdr.intro λT l I=>by
 have F:=Q T l I;refine Bu func192 rfl (Ag func192 ZbK ZbK) rfl λw C=>?_;rw[ntmps192];refine Zfz ?_;rintro _ _ ⟨a,r,q,E,rfl,rfl⟩;refine ZfN ?_
 cases A:Hc G0 r with
 |none=>
  refine MZ 0 (.var 92 [.d (Hf T r)]) 2 4 [3,2,1,0] [.d (AQ (Hl a)),.ptr 0 0,.d (AQ (Hl default)),.d (AQ (Jk (a,default)))] [[],[],[(7,1)],[(6,0),(8,2)]] [(3,.ptr 3 0),(0,.ptr 0 0)] ZbK rfl ⟨λ_=>rfl,(λB O=>by rw[Yaz.1 O];rfl)⟩ ⟨rfl,rfl,trivial⟩ rfl rfl ZbK (by refine DSteps.q rfl ZbE ?_;refine DSteps.q rfl ZbE ?_;refine DSteps.k rfl (DCallP.mk (λ_=>rfl) (Q T r E)) ?_;refine DSteps.q rfl ZbE ?_;exact DSteps.nil) ZbK ZdP (λN=>(by repeat (first | exact AN (by unfold VT;rw[Rd.some q];exact Rd.none N) | apply AH | apply PanQ.block | apply PanQ.loop):PanQ _ _))
 |some y=>
  obtain⟨c,j⟩:=y;refine Na 0 (.var 92 [.d (Hf T r)]) (.var 92 [.d (Hf T j)]) 2 4 [3,2,1,0] [.d (AQ (Hl a)),.ptr 0 0,.d (AQ (Hl c)),.d (AQ (Jk (a,c)))] [[],[],[(7,1)],[(6,0),(8,2)]] [(3,.ptr 3 0),(0,.ptr 0 0),(2,.ptr 2 0)] [(9,.d (AQ (Jk (a,c)))),(2,.ptr 2 0)] ZbK rfl ⟨λ_=>rfl,λ_=>rfl,(λB O=>by rw[Yaz.1 O];rfl)⟩ ⟨rfl,rfl,rfl,trivial⟩ rfl rfl ZbK ZbK (by refine DSteps.q rfl ZbE ?_;refine DSteps.q rfl ZbE ?_;refine DSteps.k rfl (DCall.mk (λ_=>rfl) (Q.con E A)) ?_;refine DSteps.q rfl ZbE ?_;exact DSteps.nil) ZbK ⟨rfl,rfl,trivial⟩ [.var 92 [.d (Hf T j)],.pin [(C,.own 0)],.var 129 ([ex (.bool false),ex (.slice none 0 0),ex (.bool false),ex (.slice none 0 0),ex (.bool false),ex (.slice none 0 0),ex (.bool false),ex (.slice none 0 0)].map .d),.var 111 ((Hl a).map .d)] rfl ?_;refine Zfy ?_;exact⟨(a,c),j,by unfold VT;rw[Rd.some q,Rd.some A];rfl,A20.byt A E,rfl,rfl⟩
def inC(x:Bool×List Nat):List D:=[ex (.bool x.1),wD x.2]
theorem XG(p:Rdr 307 (λx:Bool×List Nat=>AQ (inC x)) (Sn G0)):Rdr 270 (λx:RQ=>AQ (Hl x)) (Hc G0):=Rdr.intro λT l I=>by
 have F:=p T l I;refine Bu func270 rfl (Ag func270 ZbK ZbK) rfl λw C=>?_;rw[ntmps270];refine Zfz ?_;rintro _ _ ⟨a,r,q,E,rfl,rfl⟩;refine ZfN ?_
 cases A:(Sn G0) r with
 |none=>
  refine MZ 0 (.var 92 [.d (Hf T r)]) 2 4 [3,2,1,0] [.d (AQ (inC a)),.ptr 0 0,.d (AQ (inC (false,[]))),.d (AQ (Hl ⟨a.1,a.2,false,[]⟩))] [[],[],[(7,1)],[(6,0),(8,2)]] [(3,.ptr 3 0),(0,.ptr 0 0)] ZbK rfl ⟨λ_=>rfl,(λB O=>by rw[Yaz.1 O];rfl)⟩ ⟨rfl,rfl,trivial⟩ rfl rfl ZbK (by refine DSteps.q rfl ZbE ?_;refine DSteps.q rfl ZbE ?_;refine DSteps.k rfl (DCallP.mk (λ_=>rfl) (p T r E)) ?_;refine DSteps.q rfl ZbE ?_;exact DSteps.nil) ZbK ZdP (λN=>(by repeat (first | exact AN (by unfold Hc;rw[Rd.some q];exact Rd.none N) | apply AH | apply PanQ.block | apply PanQ.loop):PanQ _ _))
 |some y=>
  obtain⟨c,j⟩:=y;refine Na 0 (.var 92 [.d (Hf T r)]) (.var 92 [.d (Hf T j)]) 2 4 [3,2,1,0] [.d (AQ (inC a)),.ptr 0 0,.d (AQ (inC c)),.d (AQ (Hl ⟨a.1,a.2,c.1,c.2⟩))] [[],[],[(7,1)],[(6,0),(8,2)]] [(3,.ptr 3 0),(0,.ptr 0 0),(2,.ptr 2 0)] [(9,.d (AQ (Hl ⟨a.1,a.2,c.1,c.2⟩))),(2,.ptr 2 0)] ZbK rfl ⟨λ_=>rfl,λ_=>rfl,(λB O=>by rw[Yaz.1 O];rfl)⟩ ⟨rfl,rfl,rfl,trivial⟩ rfl rfl ZbK ZbK (by refine DSteps.q rfl ZbE ?_;refine DSteps.q rfl ZbE ?_;refine DSteps.k rfl (DCall.mk (λ_=>rfl) (p.con E A)) ?_;refine DSteps.q rfl ZbE ?_;exact DSteps.nil) ZbK ⟨rfl,rfl,trivial⟩ [.var 92 [.d (Hf T j)],.pin [(C,.own 0)],.var 111 ([ex (.bool false),ex (.slice none 0 0),ex (.bool false),ex (.slice none 0 0)].map .d),.var 109 ((inC a).map .d)] rfl ?_;refine Zfy ?_;exact⟨_,j,by unfold Hc;rw[Rd.some q,Rd.some A];rfl,VU.byt A E,rfl,rfl⟩
theorem XL:Suf (HX G0):=Yi (A20.bind λ_=>Suf.bind (Suf.bind (Suf.rep (Suf.bind VM λn l x J h=>by(split at h<;>cases h);exact⟨0,rfl⟩) 8) λ_=>JW) λ_=>JW)
theorem A2R(p:Rdr 270 (λx:RQ=>AQ (Hl x)) (Hc G0))(G:Rdr 185 (λx:List RTm=>Kc x) (HX G0)):Rdr 194 (λx:RQ×List RTm=>AQ (Jv x)) (sqP G0):=Rdr.intro λT l I=>by
 have F:=p T l I;refine Bu func194 rfl (Ag func194 ZbK ZbK) rfl λw C=>?_;rw[ntmps194];refine Zfz ?_;rintro _ _ ⟨a,r,q,E,rfl,rfl⟩;refine ZfN ?_
 cases A:(HX G0) r with
 |none=>
  refine MZ 0 (.var 92 [.d (Hf T r)]) 2 4 [3,2,1,0] [.d (AQ (Hl a)),.ptr 0 0,.d (Kc ([]:List RTm)),.d (AQ (Jv (a,([]:List RTm))))] [[],[],[(7,1)],[(6,0),(8,2)]] [(3,.ptr 3 0),(0,.ptr 0 0)] ZbK rfl ⟨λ_=>rfl,(λB O=>by rw[Yaz.1 O];rfl)⟩ ⟨rfl,rfl,trivial⟩ rfl rfl ZbK (by refine DSteps.q rfl ZbE ?_;refine DSteps.q rfl ZbE ?_;refine DSteps.k rfl (DCallP.mk (λ_=>rfl) (G T r E)) ?_;refine DSteps.q rfl ZbE ?_;exact DSteps.nil) ZbK ZdP (λN=>(by repeat (first | exact AN (by unfold sqP;rw[Rd.some q];exact Rd.none N) | apply AH | apply PanQ.block | apply PanQ.loop):PanQ _ _))
 |some y=>
  obtain⟨c,j⟩:=y;refine Na 0 (.var 92 [.d (Hf T r)]) (.var 92 [.d (Hf T j)]) 2 4 [3,2,1,0] [.d (AQ (Hl a)),.ptr 0 0,.d (Kc c),.d (AQ (Jv (a,c)))] [[],[],[(7,1)],[(6,0),(8,2)]] [(3,.ptr 3 0),(0,.ptr 0 0),(2,.ptr 2 0)] [(9,.d (AQ (Jv (a,c)))),(2,.ptr 2 0)] ZbK rfl ⟨λ_=>rfl,λ_=>rfl,(λB O=>by rw[Yaz.1 O];rfl)⟩ ⟨rfl,rfl,rfl,trivial⟩ rfl rfl ZbK ZbK (by refine DSteps.q rfl ZbE ?_;refine DSteps.q rfl ZbE ?_;refine DSteps.k rfl (DCall.mk (λ_=>rfl) (G.con E A)) ?_;refine DSteps.q rfl ZbE ?_;exact DSteps.nil) ZbK ⟨rfl,rfl,trivial⟩ [.var 92 [.d (Hf T j)],.pin [(C,.own 0)],.var 184 ([ex (.bool false),ex (.slice none 0 0),ex (.bool false),ex (.slice none 0 0),ex (.slice none 0 0)].map .d),.var 111 ((Hl a).map .d)] rfl ?_;refine Zfy ?_;exact⟨_,j,by unfold sqP;rw[Rd.some q,Rd.some A];rfl,XL.byt A E,rfl,rfl⟩
theorem TA(Q:Rdr 270 (λx:RQ=>AQ (Hl x)) (Hc G0)):Rdr 269 (λL:List (RQ)=>GY L) (Vf G0):=Rdr.intro λT l I=>by
 have F:=AaY Q T l I;refine Bu func269 rfl (Ag func269 ZbK ZbK) rfl λw A=>?_;rw[ntmps269];exact Zif
theorem A7o(Q:Rdr 263 (λx:RTm=>AQ (rtC x)) (JD G0)):Rdr 185 (λL:List (RTm)=>Kc L) (HX G0):=Rdr.intro λT l I=>by
 have F:=A9f Q T l I;refine Bu func185 rfl (Ag func185 ZbK ZbK) rfl λw A=>?_;rw[ntmps185];exact Zif
theorem A58(Q:Rdr 185 (λx:List RTm=>Kc x) (HX G0)):Rdr 184 (λL:List (List RTm)=>Ic L) (EY G0):=Rdr.intro λT l I=>by
 have F:=A9g Q T l I;refine Bu func184 rfl (Ag func184 ZbK ZbK) rfl λw A=>?_;rw[ntmps184];exact Zif
theorem A2O(Q:Rdr 184 (λx:List (List RTm)=>Ic x) (EY G0)):Rdr 189 (λL:List (List (List RTm))=>Tu L) (OG G0):=Rdr.intro λT l I=>by
 have F:=A7j Q T l I;refine Bu func189 rfl (Ag func189 ZbK ZbK) rfl λw A=>?_;rw[ntmps189];exact Zif
theorem A5e(Q:Rdr 265 (λx:Nat->Int=>AQ (CE x)) (TF G0)):Rdr 186 (λL:List (Nat->Int)=>Du L) (OP G0):=Rdr.intro λT l I=>by
 have F:=AaX Q T l I;refine Bu func186 rfl (Ag func186 ZbK ZbK) rfl λw A=>?_;rw[ntmps186];exact Zif
theorem A67(Q:Rdr 267 (λx:Nat->RQ×RQ=>AQ (Dv x)) (Wo G0)):Rdr 188 (λL:List (Nat->RQ×RQ)=>FX L) (Pn G0):=Rdr.intro λT l I=>by
 have F:=Ab0 Q T l I;refine Bu func188 rfl (Ag func188 ZbK ZbK) rfl λw A=>?_;rw[ntmps188];exact Zif
theorem LS{x d:e}(h:vv.length=n):(λi=>(vv++[x]).getD i d)=λi=>if i=n then x else vv.getD i d:=by
 funext i;rw[Yab,Yab];split
 .rename_i q
  subst q;subst h;simp
 .rename_i q
  rcases YaD i n with A | A
  .rw [Yav ZbG]
  .rw [YbE ZiB,YbE ZbG]
theorem RX:Rdr 265 (λa:Nat->Int=>AQ (CE a)) (TF G0):=Rdr.intro λT l I=>by
 refine Bu func265 rfl (Ag func265 ZbK ZbK) rfl λw q=>?_;rw[ntmps265];refine Go ?_;refine AF (λv c=>∃k h j,k<=8/\v=8-k/\h.length=k/\Byt j/\(Cq (IU G0) 8 l=(Cq (IU G0) (8-k) j).map λy=>(h++y.1,y.2))/\c=⟨[(0,.ptr 0 0),(2,.ptr 2 0),(4,.d (ex (.int .i64 (k:Nat))))],[.var 92 [.d (Hf T j)],.pin [(q,.own 0)],.var 36 ((CE λi=>h.getD i default).map .d)]⟩) ?le ⟨0,[],l,Yaw _,rfl,rfl,I,by cases Cq (IU G0) 8 l<;>rfl,rfl⟩ ?round
 case le=>exact Ac ZcY (by exact HpLe.cons (Ad rfl)<|HpLe.cons (Ak rfl)<|HpLe.cons (Ad rfl)<|HpLe.nil)
 case round=>
  rintro v _ ⟨k,h,j,B,rfl,Z,C,V,rfl⟩;by_cases O:k<8
  .have F:=Gy T j C
   refine Go ?_;refine Bd [0] [] [] (F) (BX rfl) (λN=>(by repeat (first | exact AN (Rd.none (DY O V N)) | apply AH | apply PanQ.block | apply PanQ.loop):PanQ _ _) _) rfl rfl ZbF ZbD ZbL ZbB ZbH trivial rfl ?_;rintro _ _ ⟨x,g,K,H,rfl,rfl⟩;refine Kr ?_;refine Wq SV ?_;refine LD (ao rfl) (ao rfl) rfl (Aa rfl) (by first | exact CU rfl) (SetAt.mon O) rfl ?_;refine Go ?_;refine Ai (8-(k+1)) ZbG ⟨k+1,h++[x],g,by omega,rfl,by simp[Z],H,DX O V K,rfl⟩ ?_;exact Ac ZcY (by refine HpLe.cons (Ad rfl) ?_;refine HpLe.cons (Ak rfl) ?_;(refine HpLe.cons (OwLe.varD (by rw[LS Z];rfl)) ?_);exact HpLe.nil)
  .obtain rfl:k=8:=by omega
   refine Zfy ?_;exact⟨λi=>h.getD i default,j,by show MI (IU G0) l=_;unfold MI;rw[Rd.some (a:=h) (l':=j) Zfp];rfl,C,rfl,rfl⟩
theorem Bl:D.le (ex (.slice none 0 0)) (wD []):=λs v h=>⟨AM s v h,by intro x C;cases C⟩
def AllLe:List D->List D->Prop
 |a::l,b::r=>D.le a b/\AllLe l r
 |[],[]=>True
 |_,_=>False
theorem AllLe.get:∀{l r:List D},AllLe l r->l.length=r.length/\∀(k:Nat) y,r[k]? = some y->∃x,l[k]? = some x/\D.le x y
 |[],[],_=>⟨rfl,λk y h=>by cases h⟩
 |[],_::_,h=>h.elim
 |_::_,[],h=>h.elim
 |a::l,b::r,⟨q,A⟩=>by
  obtain⟨K,Y⟩:=AllLe.get A;refine⟨by simp[K],λk y h=>?_⟩
  cases k with
  |zero=>cases h;exact⟨a,rfl,q⟩
  |succ k=>exact Y k y Zdf
theorem Hv{c B:List D}(h:AllLe c B):OwLe H n (.var b (c.map .d)) (.var b (B.map .d)):=by
 obtain⟨q,A⟩:=h.get;refine OwLe.var (by simp[q]) λk y N=>?_;rw[Yau]at N
 cases F:B[k]? with
 |none=>rw[F]at N;cases N
 |some z=>
  rw[F]at N;cases N;obtain⟨x,C,I⟩:=A k z F;exact⟨.d x,by rw[Yau,C];rfl,AVle.le I⟩
theorem XP{c:e->List D}{x d:e}(h:vv.length=n):GK (ZS (λi=>c (vv.getD i d)) n (c x))=GK λi=>c ((vv++[x]).getD i d):=by
 congr 1;funext i;rw[congrFun (LS h) i];unfold ZS;split<;>rfl
theorem Hr{c:Nat->List D}{n i:Nat}{v:List D}(h:∀i,(c i).length=n)(r:v.length=n)(J:i<8):SetAt (GK c) (0+i*n) v (GK (ZS c i v)):=by
 rw[YaG];exact A3B h r J
theorem Rf:AllLe [ex (.bool false),ex (.slice none 0 0),ex (.bool false),ex (.slice none 0 0),ex (.bool false),ex (.slice none 0 0),ex (.bool false),ex (.slice none 0 0),ex (.bool false),ex (.slice none 0 0),ex (.bool false),ex (.slice none 0 0),ex (.bool false),ex (.slice none 0 0),ex (.bool false),ex (.slice none 0 0),ex (.bool false),ex (.slice none 0 0),ex (.bool false),ex (.slice none 0 0),ex (.bool false),ex (.slice none 0 0),ex (.bool false),ex (.slice none 0 0),ex (.bool false),ex (.slice none 0 0),ex (.bool false),ex (.slice none 0 0),ex (.bool false),ex (.slice none 0 0),ex (.bool false),ex (.slice none 0 0)] (GK λi=>Hl (([]:List (RQ)).getD i default)):=⟨D.le.refl _,⟨Bl,⟨D.le.refl _,⟨Bl,⟨D.le.refl _,⟨Bl,⟨D.le.refl _,⟨Bl,⟨D.le.refl _,⟨Bl,⟨D.le.refl _,⟨Bl,⟨D.le.refl _,⟨Bl,⟨D.le.refl _,⟨Bl,⟨D.le.refl _,⟨Bl,⟨D.le.refl _,⟨Bl,⟨D.le.refl _,⟨Bl,⟨D.le.refl _,⟨Bl,⟨D.le.refl _,⟨Bl,⟨D.le.refl _,⟨Bl,⟨D.le.refl _,⟨Bl,⟨D.le.refl _,⟨Bl,trivial⟩⟩⟩⟩⟩⟩⟩⟩⟩⟩⟩⟩⟩⟩⟩⟩⟩⟩⟩⟩⟩⟩⟩⟩⟩⟩⟩⟩⟩⟩⟩⟩
theorem A5b(Q:Rdr 270 (λx:RQ=>AQ (Hl x)) (Hc G0)):Rdr 196 (λf:Nat->RQ=>AQ (Mq f)) (ptP G0):=Rdr.intro λT l I=>by
 refine Bu func196 rfl (Ag func196 ZbK ZbK) rfl λw q=>?_;rw[ntmps196];refine Go ?_;refine AF (λv c=>∃k h j,k<=8/\v=8-k/\h.length=k/\Byt j/\(Cq (Hc G0) 8 l=(Cq (Hc G0) (8-k) j).map λy=>(h++y.1,y.2))/\c=⟨[(0,.ptr 0 0),(2,.ptr 2 0),(4,.d (ex (.int .i64 (k:Nat))))],[.var 92 [.d (Hf T j)],.pin [(q,.own 0)],.var 187 ((GK λi=>Hl (h.getD i default)).map .d)]⟩) ?le ⟨0,[],l,Yaw _,rfl,rfl,I,by cases Cq (Hc G0) 8 l<;>rfl,rfl⟩ ?round
 case le=>exact Ac ZcY (by exact HpLe.cons (Ad rfl)<|HpLe.cons (Ak rfl)<|HpLe.cons (Hv Rf)<|HpLe.nil)
 case round=>
  rintro v _ ⟨k,h,j,B,rfl,Z,C,V,rfl⟩;by_cases O:k<8
  .exact Zbh
  .obtain rfl:k=8:=by omega
   refine Zfy ?_;exact⟨λi=>h.getD i default,j,by show MI (Hc G0) l=_;unfold MI;rw[Rd.some (a:=h) (l':=j) Zfp];rfl,C,rfl,rfl⟩
theorem Rg:AllLe [ex (.bool false),ex (.slice none 0 0),ex (.bool false),ex (.slice none 0 0),ex (.bool false),ex (.slice none 0 0),ex (.bool false),ex (.slice none 0 0),ex (.bool false),ex (.slice none 0 0),ex (.bool false),ex (.slice none 0 0),ex (.bool false),ex (.slice none 0 0),ex (.bool false),ex (.slice none 0 0),ex (.bool false),ex (.slice none 0 0),ex (.bool false),ex (.slice none 0 0),ex (.bool false),ex (.slice none 0 0),ex (.bool false),ex (.slice none 0 0),ex (.bool false),ex (.slice none 0 0),ex (.bool false),ex (.slice none 0 0),ex (.bool false),ex (.slice none 0 0),ex (.bool false),ex (.slice none 0 0),ex (.bool false),ex (.slice none 0 0),ex (.bool false),ex (.slice none 0 0),ex (.bool false),ex (.slice none 0 0),ex (.bool false),ex (.slice none 0 0),ex (.bool false),ex (.slice none 0 0),ex (.bool false),ex (.slice none 0 0),ex (.bool false),ex (.slice none 0 0),ex (.bool false),ex (.slice none 0 0),ex (.bool false),ex (.slice none 0 0),ex (.bool false),ex (.slice none 0 0),ex (.bool false),ex (.slice none 0 0),ex (.bool false),ex (.slice none 0 0),ex (.bool false),ex (.slice none 0 0),ex (.bool false),ex (.slice none 0 0),ex (.bool false),ex (.slice none 0 0),ex (.bool false),ex (.slice none 0 0)] (GK λi=>Jk (([]:List (RQ×RQ)).getD i default)):=⟨D.le.refl _,⟨Bl,⟨D.le.refl _,⟨Bl,⟨D.le.refl _,⟨Bl,⟨D.le.refl _,⟨Bl,⟨D.le.refl _,⟨Bl,⟨D.le.refl _,⟨Bl,⟨D.le.refl _,⟨Bl,⟨D.le.refl _,⟨Bl,⟨D.le.refl _,⟨Bl,⟨D.le.refl _,⟨Bl,⟨D.le.refl _,⟨Bl,⟨D.le.refl _,⟨Bl,⟨D.le.refl _,⟨Bl,⟨D.le.refl _,⟨Bl,⟨D.le.refl _,⟨Bl,⟨D.le.refl _,⟨Bl,⟨D.le.refl _,⟨Bl,⟨D.le.refl _,⟨Bl,⟨D.le.refl _,⟨Bl,⟨D.le.refl _,⟨Bl,⟨D.le.refl _,⟨Bl,⟨D.le.refl _,⟨Bl,⟨D.le.refl _,⟨Bl,⟨D.le.refl _,⟨Bl,⟨D.le.refl _,⟨Bl,⟨D.le.refl _,⟨Bl,⟨D.le.refl _,⟨Bl,⟨D.le.refl _,⟨Bl,⟨D.le.refl _,⟨Bl,⟨D.le.refl _,⟨Bl,⟨D.le.refl _,⟨Bl,⟨D.le.refl _,⟨Bl,trivial⟩⟩⟩⟩⟩⟩⟩⟩⟩⟩⟩⟩⟩⟩⟩⟩⟩⟩⟩⟩⟩⟩⟩⟩⟩⟩⟩⟩⟩⟩⟩⟩⟩⟩⟩⟩⟩⟩⟩⟩⟩⟩⟩⟩⟩⟩⟩⟩⟩⟩⟩⟩⟩⟩⟩⟩⟩⟩⟩⟩⟩⟩⟩⟩
theorem Aa2(Q:Rdr 192 (λx:RQ×RQ=>AQ (Jk x)) (VT G0)):Rdr 267 (λf:Nat->RQ×RQ=>AQ (Dv f)) (Wo G0):=Rdr.intro λT l I=>by
 refine Bu func267 rfl (Ag func267 ZbK ZbK) rfl λw q=>?_;rw[ntmps267];refine Go ?_;refine AF (λv c=>∃k h j,k<=8/\v=8-k/\h.length=k/\Byt j/\(Cq (VT G0) 8 l=(Cq (VT G0) (8-k) j).map λy=>(h++y.1,y.2))/\c=⟨[(0,.ptr 0 0),(2,.ptr 2 0),(4,.d (ex (.int .i64 (k:Nat))))],[.var 92 [.d (Hf T j)],.pin [(q,.own 0)],.var 131 ((GK λi=>Jk (h.getD i default)).map .d)]⟩) ?le ⟨0,[],l,Yaw _,rfl,rfl,I,by cases Cq (VT G0) 8 l<;>rfl,rfl⟩ ?round
 case le=>exact Ac ZcY (by exact HpLe.cons (Ad rfl)<|HpLe.cons (Ak rfl)<|HpLe.cons (Hv Rg)<|HpLe.nil)
 case round=>
  rintro v _ ⟨k,h,j,B,rfl,Z,C,V,rfl⟩;by_cases O:k<8
  .exact Zbh
  .obtain rfl:k=8:=by omega
   refine Zfy ?_;exact⟨λi=>h.getD i default,j,by show MI (VT G0) l=_;unfold MI;rw[Rd.some (a:=h) (l':=j) Zfp];rfl,C,rfl,rfl⟩
theorem SetAt.rt{t:RTm}{z:Int}(h:n<8):SetAt (rtC t) (0+4+n*1) [ex (.int .i64 z)] (rtC { t with m:=RA t.m n z }):=by
 rcases lt8 h with rfl | rfl | rfl | rfl | rfl | rfl | rfl | rfl<;>exact⟨YbB rfl,rfl⟩
theorem A7a(Q:Rdr 270 (λx:RQ=>AQ (Hl x)) (Hc G0)):Rdr 263 (λt:RTm=>AQ (rtC t)) (JD G0):=Rdr.intro λT l I=>by
 have F:=Q T l I;refine Bu func263 rfl (Ag func263 ZbK ZbK) rfl λw G=>?_;rw[ntmps263];refine Zfz ?_;rintro _ _ ⟨a,L,d,M,rfl,rfl⟩;refine ZfN ?_;refine AF (λv c=>∃k q j,k<=8/\v=8-k/\q.length=k/\Byt j/\(Cq (SB G0) 8 L=(Cq (SB G0) (8-k) j).map λy=>(q++y.1,y.2))/\c=⟨[(0,.ptr 0 0),(2,.ptr 2 0),(3,.ptr 3 0),(9,.d (ex (.int .i64 (k:Nat))))],[.var 92 [.d (Hf T j)],.pin [(G,.own 0)],.var 114 ([ex (.bool false),ex (.slice none 0 0),ex (.bool false),ex (.slice none 0 0),ex (.int .i64 0),ex (.int .i64 0),ex (.int .i64 0),ex (.int .i64 0),ex (.int .i64 0),ex (.int .i64 0),ex (.int .i64 0),ex (.int .i64 0)].map .d),.var 114 ((rtC ⟨a.b,a.l,a.b',a.l',λi=>q.getD i default⟩).map .d)]⟩) ?le ⟨0,[],L,Yaw _,rfl,rfl,M,by cases Cq (SB G0) 8 L<;>rfl,rfl⟩ ?round
 case le=>exact Ac Zdh (by exact HpLe.cons (Ad rfl)<|HpLe.cons (Ak rfl)<|HpLe.cons (Ad rfl)<|HpLe.cons (Ad rfl)<|HpLe.nil)
 case round=>
  rintro v _ ⟨k,q,j,B,rfl,Z,J,V,rfl⟩
  have A:∀{r},Cq (SB G0) 8 L=r->JD G0 l=(match r with | none=>none | some (u,g)=>some (⟨a.b,a.l,a.b',a.l',λi=>u.getD i default⟩,g)):=λ{r} V=>by
   unfold JD;rw[Rd.some d];unfold MI Rd.bind;rw[V];cases r<;>rfl
  by_cases O:k<8
  .have F:=DJ T j J
   refine Go ?_;refine Bd [0] [] [] (F) (BX rfl) (λN=>(by repeat (first | exact AN (A (DY O V (Rd.none N))) | apply AH | apply PanQ.block | apply PanQ.loop):PanQ _ _) _) rfl rfl ZbF ZbD ZbL ZbB ZbH trivial rfl ?_;rintro _ _ ⟨n,g,K,H,rfl,rfl⟩;refine Kr ?_;have h:=FM K;by_cases E:65535<n
   .have C:SB G0 j=none:=by
     unfold SB;rw[Rd.some (p:=G0.nat) K];exact Yai (by simp[G0];omega)
    refine Go ?_;refine Wq (EJ (ao rfl) (Aa rfl)) ?_;refine Dq (ao rfl) ?_;exact(by repeat (first | exact AN (A (DY O V C)) | apply AH | apply PanQ.block | apply PanQ.loop):PanQ _ _) _
   .have C:SB G0 j=some ((n:Int),g):=by
     unfold SB;rw[Rd.some (p:=G0.nat) K];exact Yan (by simp[G0];omega)
    refine Wa<|Y0<|Ah<|Y1<|Wm ?_;refine Wq AO ?_;refine Y0<|Cf<|Ys<|AWp.region<|Wm<|Wm ?_;refine Wq (AP (r:=((n:Nat):Int)) (ao rfl) (Aa rfl) (Aa rfl) ZeF) ?_;refine Wq AC ?_;refine Wq SV ?_;refine LD (ao rfl) (ao rfl) rfl (Aa rfl) (by first | exact CU rfl) (SetAt.rt O) rfl ?_;refine AWl.nil<|Bi<|Yn<|AWp.region ?_;refine Wq CJ ?_;refine Wm<|AWl.nil ?_
    refine Ai (8-(k+1)) ZbG ⟨k+1,q++[(n:Int)],g,by omega,rfl,by simp[Z],H,DX O V C,rfl⟩ ?_;exact Ac Zdh (by refine HpLe.cons (Ad rfl) ?_;refine HpLe.cons (Ak rfl) ?_;refine HpLe.cons (Ad rfl) ?_;(refine HpLe.cons (OwLe.varD (by rw[LS Z];rfl)) ?_);exact HpLe.nil)
  .obtain rfl:k=8:=by omega
   refine Zfy ?_;exact⟨_,j,by rw[A V];simp[Cq,Cu],J,rfl,rfl⟩
theorem A7S(M:Rdr 184 (λL:List (List RTm)=>Ic L) (EY G0))(p:Suf (EY G0)):Rdr 96 (λk:Cor=>AQ (Ec k)) (YI G0):=Rdr.intro λT l I=>by
 have F:=Gy T l I;refine Bu func96 rfl (Ag func96 ZbK ZbK) rfl λw x=>?_;rw[ntmps96];refine Zfz ?_;rintro _ _ ⟨n,r,q,E,rfl,rfl⟩;refine Kr ?_;have a:=M T r E;refine Go ?_;refine Bd [0] [] [] (a) (BX rfl) (λN=>(by repeat (first | exact AN (by unfold YI;rw[Rd.some q];exact Rd.none N) | apply AH | apply PanQ.block | apply PanQ.loop):PanQ _ _) _) rfl rfl ZbF ZbD ZbL ZbB ZbH trivial rfl ?_;rintro _ _ ⟨e,j,A,C,rfl,rfl⟩;refine Kr ?_;have O:=M T j C;refine Go ?_;refine Bd [0] [] [] (O) (BX rfl) (λN=>(by repeat (first | exact AN (by unfold YI;rw[Rd.some q,Rd.some A];exact Rd.none N) | apply AH | apply PanQ.block | apply PanQ.loop):PanQ _ _) _) rfl rfl ZbF ZbD ZbL ZbB ZbH trivial rfl ?_;rintro _ _ ⟨f,g,K,H,rfl,rfl⟩;refine Kr ?_;refine Zfy ?_;exact⟨⟨n,e,f⟩,g,by unfold YI;rw[Rd.some q,Rd.some A,Rd.some K];rfl,H,rfl,rfl⟩
theorem A60(xa:Rdr 185 (λx:List RTm=>Kc x) (HX G0))(Z:Rdr 184 (λx:List (List RTm)=>Ic x) (EY G0))(v:Rdr 186 (λx:List (Nat->Int)=>Du x) (OP G0))(h:Rdr 188 (λx:List (Nat->RQ×RQ)=>FX x) (Pn G0)):Rdr 97 (λc:Clm=>AQ (ED c)) (MR G0):=Rdr.intro λT l I=>by
 have M:=Gy T l I;refine Bu func97 rfl (Ag func97 ZbK ZbK) rfl λw F=>?_;rw[ntmps97];refine Go ?_;refine Bd [0] [] [] (M) (BX rfl) (λN=>(by repeat (first | exact AN (by unfold MR;exact Rd.none N) | apply AH | apply PanQ.block | apply PanQ.loop):PanQ _ _) _) rfl rfl ZbF ZbD ZbL ZbB ZbH trivial rfl ?_;rintro _ _ ⟨kind,E,q,J,rfl,rfl⟩;refine Kr ?_;have k:=xa T E J;refine Go ?_;refine Bd [0] [] [] (k) (BX rfl) (λN=>(by repeat (first | exact AN (by unfold MR;rw[Rd.some q];exact Rd.none N) | apply AH | apply PanQ.block | apply PanQ.loop):PanQ _ _) _) rfl rfl ZbF ZbD ZbL ZbB ZbH trivial rfl ?_;rintro _ _ ⟨p,j,A,G,rfl,rfl⟩;refine Kr ?_;have a:=Gy T j G;refine Go ?_;refine Bd [0] [] [] (a) (BX rfl) (λN=>(by repeat (first | exact AN (by unfold MR;rw[Rd.some q,Rd.some A];exact Rd.none N) | apply AH | apply PanQ.block | apply PanQ.loop):PanQ _ _) _) rfl rfl ZbF ZbD ZbL ZbB ZbH trivial rfl ?_;rintro _ _ ⟨n,g,K,H,rfl,rfl⟩;refine Kr ?_;have O:=Gy T g H;refine Go ?_;refine Bd [0] [] [] (O) (BX rfl) (λN=>(by repeat (first | exact AN (by unfold MR;rw[Rd.some q,Rd.some A,Rd.some K];exact Rd.none N) | apply AH | apply PanQ.block | apply PanQ.loop):PanQ _ _) _) rfl rfl ZbF ZbD ZbL ZbB ZbH trivial rfl ?_;rintro _ _ ⟨d,e,Y,S,rfl,rfl⟩;refine Kr ?_;have V:=Gy T e S;refine Go ?_;refine Bd [0] [] [] (V) (BX rfl) (λN=>(by repeat (first | exact AN (by unfold MR;rw[Rd.some q,Rd.some A,Rd.some K,Rd.some Y];exact Rd.none N) | apply AH | apply PanQ.block | apply PanQ.loop):PanQ _ _) _) rfl rfl ZbF ZbD ZbL ZbB ZbH trivial rfl ?_;rintro _ _ ⟨r,z,B,Q,rfl,rfl⟩;refine Kr ?_;have i:=v T z Q;refine Go ?_;refine Bd [0] [] [] (i) (BX rfl) (λN=>(by repeat (first | exact AN (by unfold MR;rw[Rd.some q,Rd.some A,Rd.some K,Rd.some Y,Rd.some B];exact Rd.none N) | apply AH | apply PanQ.block | apply PanQ.loop):PanQ _ _) _) rfl rfl ZbF ZbD ZbL ZbB ZbH trivial rfl ?_;rintro _ _ ⟨o,l6,C,P,rfl,rfl⟩;refine Kr ?_;have m:=Z T l6 P;refine Go ?_;refine Bd [0] [] [] (m) (BX rfl) (λN=>(by repeat (first | exact AN (by unfold MR;rw[Rd.some q,Rd.some A,Rd.some K,Rd.some Y,Rd.some B,Rd.some C];exact Rd.none N) | apply AH | apply PanQ.block | apply PanQ.loop):PanQ _ _) _) rfl rfl ZbF ZbD ZbL ZbB ZbH trivial rfl ?_;rintro _ _ ⟨L,l7,f,R,rfl,rfl⟩;refine Kr ?_;have t:=(AaZ Gy) T l7 R;refine Zgy ?_;refine Bd [0] [] [] (t) (BX rfl) (λN=>(by repeat (first | exact AN (by unfold MR;rw[Rd.some q,Rd.some A,Rd.some K,Rd.some Y,Rd.some B,Rd.some C,Rd.some f];exact Rd.none N) | apply AH | apply PanQ.block | apply PanQ.loop):PanQ _ _) _) rfl rfl ZbF ZbD ZbL ZbB ZbH trivial rfl ?_;rintro _ _ ⟨s,l8,y,X,rfl,rfl⟩;refine Kr ?_;have u:=h T l8 X;refine Go ?_;refine Bd [0] [] [] (u) (BX rfl) (λN=>(by repeat (first | exact AN (by unfold MR;rw[Rd.some q,Rd.some A,Rd.some K,Rd.some Y,Rd.some B,Rd.some C,Rd.some f,Rd.some y];exact Rd.none N) | apply AH | apply PanQ.block | apply PanQ.loop):PanQ _ _) _) rfl rfl ZbF ZbD ZbL ZbB ZbH trivial rfl ?_;rintro _ _ ⟨b,l9,W,U,rfl,rfl⟩;refine Kr ?_;refine Zfy ?_;exact⟨⟨kind,p,n,d,r,o,L,s,b⟩,l9,by unfold MR;rw[Rd.some q,Rd.some A,Rd.some K,Rd.some Y,Rd.some B,Rd.some C,Rd.some f,Rd.some y,Rd.some W];rfl,U,rfl,rfl⟩
theorem A3A{r:Nat->List RQ}{v:List RQ}(h:n<8):SetAt (RE ⟨vh,uU,r⟩) (0+9+n*1) [GY v] (RE ⟨vh,uU,ZS r n v⟩):=by
 rcases lt8 h with rfl | rfl | rfl | rfl | rfl | rfl | rfl | rfl<;>exact⟨YbB rfl,rfl⟩
theorem A4o:AllLe [ex (.int .i64 (vh 0)),ex (.int .i64 (vh 1)),ex (.int .i64 (vh 2)),ex (.int .i64 (vh 3)),ex (.int .i64 (vh 4)),ex (.int .i64 (vh 5)),ex (.int .i64 (vh 6)),ex (.int .i64 (vh 7)),GY uU,ex (.slice none 0 0),ex (.slice none 0 0),ex (.slice none 0 0),ex (.slice none 0 0),ex (.slice none 0 0),ex (.slice none 0 0),ex (.slice none 0 0),ex (.slice none 0 0)] (RE ⟨vh,uU,λi=>([]:List (List RQ)).getD i default⟩):=
 ⟨D.le.refl _,D.le.refl _,D.le.refl _,D.le.refl _,D.le.refl _,D.le.refl _,D.le.refl _,D.le.refl _,D.le.refl _,AM,AM,AM,AM,AM,AM,AM,AM,trivial⟩
theorem Vx(Q:Rdr 269 (λL:List RQ=>GY L) (Vf G0)):Rdr 190 (λr:Rsl=>AQ (RE r)) (XC G0):=Rdr.intro λT l I=>by
 have F:=RX T l I;refine Bu func190 rfl (Ag func190 ZbK ZbK) rfl λw C=>?_;rw[ntmps190];refine Zfz ?_;rintro _ _ ⟨W,Z,q,X,rfl,rfl⟩;refine Kr ?_;have J:=Q T Z X;refine Go ?_;refine Bd [0] [] [] (J) (BX rfl) (λN=>(by repeat (first | exact AN (by unfold XC;rw[Rd.some q];exact Rd.none N) | apply AH | apply PanQ.block | apply PanQ.loop):PanQ _ _) _) rfl rfl ZbF ZbD ZbL ZbB ZbH trivial rfl ?_;rintro _ _ ⟨u,M,d,t,rfl,rfl⟩;refine ZfN ?_;refine AF (λv c=>∃k h j,k<=8/\v=8-k/\h.length=k/\Byt j/\(Cq (Vf G0) 8 M=(Cq (Vf G0) (8-k) j).map λy=>(h++y.1,y.2))/\c=⟨[(0,.ptr 0 0),(2,.ptr 2 0),(3,.ptr 3 0),(11,.d (ex (.int .i64 (k:Nat))))],[.var 92 [.d (Hf T j)],.pin [(C,.own 0)],.var 41 ([ex (.int .i64 0),ex (.int .i64 0),ex (.int .i64 0),ex (.int .i64 0),ex (.int .i64 0),ex (.int .i64 0),ex (.int .i64 0),ex (.int .i64 0),ex (.slice none 0 0),ex (.slice none 0 0),ex (.slice none 0 0),ex (.slice none 0 0),ex (.slice none 0 0),ex (.slice none 0 0),ex (.slice none 0 0),ex (.slice none 0 0),ex (.slice none 0 0)].map .d),.var 41 ((RE ⟨W,u,λi=>h.getD i default⟩).map .d)]⟩) ?le ⟨0,[],M,Yaw _,rfl,rfl,t,by cases Cq (Vf G0) 8 M<;>rfl,rfl⟩ ?round
 case le=>exact Ac Zdh (by exact HpLe.cons (Ad rfl)<|HpLe.cons (Ak rfl)<|HpLe.cons (Ad rfl)<|HpLe.cons (Hv A4o)<|HpLe.nil)
 case round=>
  rintro v _ ⟨k,h,j,B,rfl,G,E,V,rfl⟩
  have A:∀{r},Cq (Vf G0) 8 M=r->XC G0 l=(match r with | none=>none | some (S,g)=>some (⟨W,u,λi=>S.getD i default⟩,g)):=λ{r} V=>by
   unfold XC;rw[Rd.some q,Rd.some d];unfold MI Rd.bind;rw[V];cases r<;>rfl
  by_cases O:k<8
  .have F:=Q T j E
   refine Go ?_;refine Bd [0] [] [] (F) (BX rfl) (λN=>(by repeat (first | exact AN (A (DY O V N)) | apply AH | apply PanQ.block | apply PanQ.loop):PanQ _ _) _) rfl rfl ZbF ZbD ZbL ZbB ZbH trivial rfl ?_;rintro _ _ ⟨x,g,K,H,rfl,rfl⟩;refine ZfN ?_;refine LD (ao rfl) (ao rfl) rfl (Aa rfl) (by first | exact CX) (A3A O) rfl ?_;refine Go ?_;refine Ai (8-(k+1)) ZbG ⟨k+1,h++[x],g,by omega,rfl,by simp[G],H,DX O V K,rfl⟩ ?_;exact Ac Zdh (by refine HpLe.cons (Ad rfl) ?_;refine HpLe.cons (Ak rfl) ?_;refine HpLe.cons (Ad rfl) ?_;(refine HpLe.cons (OwLe.varD (by rw[LS G];rfl)) ?_);exact HpLe.nil)
  .obtain rfl:k=8:=by omega
   refine Zfy ?_;exact⟨_,j,by rw[A V];simp[Cq,Cu],E,rfl,rfl⟩
