/- Part 24. No condition. -/
import Derived.Test.YtcikkglcoeedlaaGreatBk18
import Derived.Test.YtcikkglcoeedlaaGreatBk20
import Derived.Test.YtcikkglcoeedlaaGreatBk23
set_option linter.unusedSimpArgs false
set_option linter.unusedVariables false
set_option maxRecDepth 100000
namespace Go.Proofs.YtcikkglcoeedlaaGreat
open _root_.Go.Proofs.Tryz
open Go.RowKit
variable{l f vo:List Nat}{H:List Ow}{uV:List RQ}{e:Type}{vu:List e}{n b T:Nat}{vh:Nat->Int}{vC:Operand->AV}{vI:Rd e}{uz:Type}{vQ:e}
theorem A9o(f:n<2^T)(x:n+b*2^T<18446744073709551616):IntKind.u64.wrap ((BitVec.ofInt IntKind.u64.bits ((n:Nat):Int) ||| BitVec.ofInt IntKind.u64.bits ((b*2^T:Nat):Int)).toNat)=((n+b*2^T:Nat):Int):=by
 have Z:(BitVec.ofInt IntKind.u64.bits ((n:Nat):Int))=BitVec.ofNat 64 n:=rfl;have s:(BitVec.ofInt IntKind.u64.bits ((b*2^T:Nat):Int))=BitVec.ofNat 64 (b*2^T):=rfl;rw[Z,s];show IntKind.u64.wrap (((BitVec.ofNat 64 n ||| BitVec.ofNat 64 (b*2^T)).toNat:Nat):Int)=_;rw[YdZ,Ycx,Ycx,YaS ZbD,YaS ZbD];have h:=Ycz f b;rw[YdN]at h;rw[Nat.or_comm,<-h,ET ZbD];omega
theorem A4D(h:n*2^b<18446744073709551616):IntKind.u64.wrap ((n:Nat)*2^b:Int)=((n*2^b:Nat):Int):=by
 have e:((n:Nat):Int)*2^b=((n*2^b:Nat):Int):=by push_cast;rfl
 rw[e,ET ZbD]
theorem A72:IntKind.u64.wrap ((n:Nat)*2^b:Int)=((n*2^b%18446744073709551616:Nat):Int):=by
 have e:((n:Nat):Int)*2^b=((n*2^b:Nat):Int):=by push_cast;rfl
 rw[e,IntKind.wrap_u64];omega
theorem A5b(k s n:Nat):Nt k s n []=none:=by cases k<;>rfl
theorem DI:Rdr 260 (λn:Nat=>ex (.int .u64 (n:Nat))) OM:=Rdr.intro λT l J=>by
 refine Bu func260 rfl (Ag func260 ZbI ZbI) rfl λv M=>?_;rw[ntmps260];refine Go ?_;refine AC (λu d=>∃i n L,i<=10/\u=10-i/\n<2^(7*i)/\Byt L/\Nt (10-i) (2^(7*i)) n L=OM l/\d=⟨[(0,.ptr 0 0),(3,.d (ex (.int .u64 (n:Nat)))),(4,.d (ex (.int .i64 ((7*i:Nat):Int))))],[.var 92 [.d (GX T L)],.pin [(M,.own 0)]]⟩) ?le ⟨0,0,l,by omega,rfl,by decide,J,rfl,rfl⟩ ?round
 case le=>exact Ac Zcg Zez
 case round=>
  rintro u _ ⟨i,n,L,K,rfl,f,X,b,rfl⟩;by_cases g:i<10
  .obtain ⟨k, C⟩:∃k, 10-i=k+1:=⟨9-i, by omega⟩
   rw[C]at b;have V:=A1T T L X 1 ZbH;refine Go ?_;refine Bc [0] [] [] (V) (BX rfl) (λR=>(by repeat (first | exact AM (by rw[<-b,List.length_eq_zero_iff.1 (show L.length=0 by omega),A5b]) | apply AF | apply PanQ.block | apply PanQ.loop):PanQ _ _) _) rfl rfl ZbC ZbA ZbH Zby ZbE trivial rfl ?_;rintro _ _ ⟨A,rfl,rfl⟩;refine Kr ?_
   obtain⟨c,a,rfl⟩:∃c a,L=c::a:=by
    cases L with
    |nil=>simp at A
    |cons c a=>exact⟨c,a,rfl⟩
   have I:=X.lt c Ybn;have Q:Byt a:=X.drop 1;rw[Nt]at b
   dsimp only at b
   obtain⟨m,F⟩:∃m,m=c%128:=⟨_,rfl⟩;rw[<-F]at b;have G:0<2^(7*i):=Yef ZbH;refine Wq A3C ?_;refine Wq AT ?_;refine Wq (AO (r:=((c:Nat):Int)) (ao rfl) (Aa rfl) (Aa rfl) (ET ZbD)) ?_;refine Wa<|Y0<|Y1<|Wm ?_;refine Wq (Md (r:=((m:Nat):Int)) (ao rfl) (ao rfl) ZbH Zda) ?_;refine Wa<|Y0<|Ai<|Y1<|Wm<|Wm ?_
   by_cases q:18446744073709551616<=m*2^(7*i)
   .rw [Yan q]at b
    obtain⟨x,E⟩:∃x,x=m*2^(7*i)%18446744073709551616:=⟨_,rfl⟩;obtain⟨y,O⟩:∃y,y=x/2^(7*i):=⟨_,rfl⟩
    have N:y≠m:=λe=>by
     have B:y*2^(7*i)<=x:=by rw[O];exact Nat.div_mul_le_self _ _
     rw[e]at B;omega
    refine Wq (Mc (n:=7*i) (r:=((x:Nat):Int)) (ao rfl) (ao rfl) (Ybu ZdW) (by rw[A72,E])) ?_;refine Wm ?_;refine Wq (Ex (n:=7*i) (r:=((y:Nat):Int)) (ao rfl) (ao rfl) (Ybu ZdW) (by rw[EY rfl,O])) ?_;refine Zha ?_;exact ZgR
   .rw [Yai q]at b
    obtain⟨x,E⟩:∃x,x=m*2^(7*i):=⟨_,rfl⟩;have O:x/2^(7*i)=m:=by rw[E,Nat.mul_div_cancel _ G]
    have z:m<128:=by omega
    have Y:2^(7*(i+1))=2^(7*i)*128:=by rw[YaD,YcG]
    have W:x+2^(7*i)<=2^(7*(i+1)):=by
     rw[Y,E];have:(m+1)*2^(7*i)<=128*2^(7*i):=YaW ZbD (Yah _);rw[YbC,YcA]at this;omega
    have H:n+x<18446744073709551616:=by
     rcases YaG i 9 with S | S
     .have:2^(7*(i+1))<=2^63:=Ybk ZbH ZbD
      omega
     .obtain rfl:i=9:=by omega
      omega
    rw[<-E]at b;refine Wq (Mc (n:=7*i) (r:=((x:Nat):Int)) (ao rfl) (ao rfl) (Ybu ZdW) (by rw[E];exact A4D ZbD)) ?_;refine Wm ?_;refine Wq (Ex (n:=7*i) (r:=((m:Nat):Int)) (ao rfl) (ao rfl) (Ybu ZdW) (by rw[EY rfl,O])) ?_;refine Go ?_;refine Wq (Mc (n:=7*i) (r:=((x:Nat):Int)) (ao rfl) (ao rfl) (Ybu ZdW) (by rw[E];exact A4D ZbD)) ?_;refine Wq (Wy (r:=((n+x:Nat):Int)) (ao rfl) (ao rfl) (by rw[E];exact A9o f ZbD)) ?_;refine Go ?_;by_cases Z:c<128
    .rw [Yan Z]at b
     refine Go ?_;refine FinP.ret (RetsA.one rfl) rfl ?_ rfl;exact⟨_,_,b.symm,Q,rfl,rfl⟩
    .rw [Yai Z]at b
     refine Go ?_;refine Ah (10-(i+1)) ZbD ⟨i+1,n+x,a,by omega,rfl,by omega,Q,by rw[<-b,Y,show 10-(i+1)=k by omega],rfl⟩ ?_;exact Ac Zcg Zez
  .obtain rfl:i=10:=by omega
   refine Zha ?_;exact ZgR
def G0:Lg:=⟨OM,λn=>decide (n<=65535)⟩
theorem XI:∀(k j n:Nat) (l:List Nat) (x:Nat) (m:List Nat),j+7*k=70->n<2^j->Nt k (2^j) n l=some (x,m)->x<18446744073709551616
 |0,_,_,_,_,_,_,_,h=>by cases h
 |k+1,j,n,[],_,_,_,_,h=>by cases h
 |k+1,j,n,c::l,x,m,a,f,h=>by
  rw[Nt]at h
  dsimp only at h
  split at h
  .cases h
  .rename_i q
   have G:2^(64-j)*2^j=18446744073709551616:=by rw[<-YcG,show 64-j+j=64 by omega]
   have A:c%128<2^(64-j):=by
    rcases YaG (c%128) (2^(64-j))with h | h
    .exact h
    .have:=YaB (2^j) h
     omega
   have B:(c%128+1)*2^j<=2^(64-j)*2^j:=YaB _ A;rw[YbC,YcA,G]at B;split at h
   .cases h
    omega
   .rw [show 2^j*128=2^(j+7) by rw [YcG]] at h
    refine XI k (j+7) _ l x m ZbD ?_ h;have L:(c%128+1)*2^j<=128*2^j:=YaB _ ZbD;rw[YbC,YcA]at L;rw[YcG];omega
theorem Fp(h:OM l=some (n,f)):n<18446744073709551616:=XI 10 0 0 l n f rfl ZbH h
theorem Rd.none{p:Rd e}{f:e->Rd uz}(h:p l=.none):p.bind f l=.none:=by rw[Rd.bind,h]
theorem Rd.some{p:Rd e}{f:e->Rd uz}{l l':List Nat}{a:e}(h:p l=.some (a,l')):p.bind f l=f a l':=by rw[Rd.bind,h]
theorem GB:Rdr 183 (λz:Int=>ex (.int .i64 z)) (If G0):=Rdr.intro λT l J=>by
 have I:=DI T l J;refine Bu func183 rfl (Ag func183 ZbI ZbI) rfl λv x=>?_;rw[ntmps183];refine Zfw ?_;rintro _ _ ⟨n,m,A,B,rfl,rfl⟩;refine Kr ?_;have f:=Fp A;have M:If G0 l=some (if n%2=0 then((n/2:Nat):Int)else -((n/2:Nat):Int)-1,m):=Rd.some A;by_cases h:n%2=0
 .rw [Yan h]at M
  refine Wa<|Y0<|Ai<|Y1<|Wm ?_;refine Wq (Md (r:=((n%2:Nat):Int)) (ao rfl) (ao rfl) ZbH Zda) ?_;refine Wq Bb ?_;refine Y0<|Ct<|Y1<|Wm ?_;refine Wq (GT (r:=((n/2:Nat):Int)) (ao rfl) (ao rfl) ZbH ZcM) ?_;refine Wq (AO (r:=((n/2:Nat):Int)) (ao rfl) (Aa rfl) (Aa rfl) ZeD) ?_;refine Wa<|Y0<|BV<|Ds ?_
  exact Zig
 .rw [Yai h]at M
  refine Wa<|Y0<|Ai<|Y1<|Wm ?_;refine Wq (Md (r:=((n%2:Nat):Int)) (ao rfl) (ao rfl) ZbH Zda) ?_;refine Wq AN ?_;refine Y0<|Cf<|Ys<|Y1<|Wm ?_;refine Wq (GT (r:=((n/2:Nat):Int)) (ao rfl) (ao rfl) ZbH ZcM) ?_;refine Wq (AO (r:=((n/2:Nat):Int)) (ao rfl) (Aa rfl) (Aa rfl) ZeD) ?_;refine Wq A0L ?_;refine Wq A0K ?_;refine Wa<|Y0<|BV ?_
  exact Zig
def Rdl{A:Type}(f B:FuncId)(d:List A->D)(p:Rd A):Prop:=∀(T:TypeId) l,Byt l->ConP prog f [.ptr 0 0,.fn (B+1000000) [0]] (rH T l) (λr z=>∃x m,Ff G0 p l=some (x,m)/\Byt m/\r=.d (d x)/\z=rH T m) rCh (Ff G0 p l=none)
theorem Rdl.intro{f C:FuncId}{d:List e->D}{p:Rd e}(h:∀(T:TypeId) l,Byt l->ConP prog f [.ptr 0 0,.fn (C+1000000) [0]] (rH T l) (λr z=>∃x m,Ff G0 p l=some (x,m)/\Byt m/\r=.d (d x)/\z.take 1=rH T m) rCh (Ff G0 p l=none)):Rdl f C d p:=λT l J=>(h T l J).cut λr z ⟨x,m,A,B,L,S⟩=>by
 subst L;exact⟨rfl,Ru S,x,m,A,B,rfl,S⟩
theorem Hv{p:Rd e}(h:OM l=none):Ff G0 p l=none:=Rd.none h
theorem Hu{p:Rd e}(h:OM l=some (n,f)):Ff G0 p l=if n<=f.length then Co p n f else none:=by
 have h:G0.nat l=some (n,f):=h;unfold Ff;rw[Rd.some h];unfold Ju Rd.bind;by_cases A:n<=f.length
 .simp [A]
 .simp [A]
theorem DV{p:Rd e}(C:b<n)(h:Co p n l=(Co p (n-b) f).map λy=>(vu++y.1,y.2))(E:p f=some (vQ,vo)):Co p n l=(Co p (n-(b+1)) vo).map λy=>((vu++[vQ])++y.1,y.2):=by
 rw[h,show n-b=(n-(b+1))+1 by omega,Co,Rd.some E];unfold Rd.bind
 cases Co p (n-(b+1)) vo with
 |none=>rfl
 |some y=>simp[Cq]
theorem DW{p:Rd e}(C:b<n)(h:Co p n l=(Co p (n-b) f).map λy=>(vu++y.1,y.2))(E:p f=none):Co p n l=none:=by
 rw[h,show n-b=(n-(b+1))+1 by omega,Co,Rd.none E];rfl
theorem Aba(V:Rdr 183 (λx:Int=>ex (.int .i64 x)) (If G0)):Rdl 187 183 (λL:List (Int)=>slD 3 1 (L.map (λz:Int=>[ex (.int .i64 z)]))) (If G0):=Rdl.intro λT l J=>by
 have I:=DI T l J;refine Bu func187 rfl (Ag func187 ZbI ZbI) rfl λv E=>?_;rw[ntmps187];refine Zfs ?_;rintro _ _ ⟨n,c,A,K,rfl,rfl⟩;refine Kr ?_;have f:=Fp A;have q:=K.len;have M:=Hu (p:=(If G0)) A;by_cases F:n<=c.length
 .rw [Yan F]at M
  refine Wa<|Y0<|Ai<|Y1<|Wm<|Wm ?_;refine Wq (BZ (ao rfl)) ?_;refine Wq AB ?_;refine Wq Cm ?_;refine Wq (Dz (ao rfl) (Aa rfl)) ?_;refine Wq (AO (r:=((c.length:Nat):Int)) (ao rfl) (Aa rfl) (Aa rfl) (ET ZbD)) ?_;refine Wq AN ?_;refine Y0<|Cf<|Ys<|Y1<|Wa<|Y0<|Ai<|Y1<|Wm<|Wm<|Y0<|AWp.block ?_
  refine EH 6 3 1 rfl ZbH ZbH rfl rfl ?_;refine AC (λu d=>∃k h a,k<=n/\u=n-k/\h.length=k/\Byt a/\(Co (If G0) n c=(Co (If G0) (n-k) a).map λy=>(h++y.1,y.2))/\d=⟨[(0,.ptr 0 0),(1,.fn (183+1000000) [0]),(6,.own 2),(18,.d (ex (.int .u64 (n:Nat)))),(19,.d (ex (.int .u64 (k:Nat))))],[.var 92 [.d (GX T a)],.pin [(E,.own 0)],.row 3 1 (h.map (λz:Int=>[ex (.int .i64 z)]))]⟩) ?le ⟨0,[],c,Yaw _,rfl,rfl,K,by cases Co (If G0) n c<;>rfl,rfl⟩ ?round
  case le=>exact Zkh
  case round=>
   rintro u _ ⟨k,h,a,C,rfl,O,G,X,rfl⟩;by_cases Q:k<n
   .have I:=V T a G
    refine Zft ?_;rintro _ _ ⟨x,H,B,N,rfl,rfl⟩;refine Kr ?_
    (refine De rfl rfl ?_;(refine DF (Aa rfl) (Aa rfl) rfl rfl rfl rfl rfl ?_;(repeat ((first | refine⟨_,Aw (ao rfl),?_⟩ | refine⟨_,Po rfl,?_⟩);refine⟨_,rfl,?_⟩));refine⟨_,rfl,?_⟩));(refine EA (r2:=[(λz:Int=>[ex (.int .i64 z)]) x]) (ao rfl) rfl rfl (Aa rfl) (Aa rfl) rfl rfl Zip Zip rfl ZbJ rfl ?_);refine Go ?_;refine ZfH ?_;refine Ah (n-(k+1)) ZbD ⟨k+1,h++[x],H,by omega,rfl,by simp[O],N,DV Q X B,rfl⟩ ?_;exact Ac ZbP ZcH
   .exact Zbd
 .exact Zbe
theorem Ab9(V:Rdr 270 (λx:RQ=>AP (Hh x)) (GK G0)):Rdl 306 270 (λL:List (RQ)=>slD 111 4 (L.map Hh)) (GK G0):=Rdl.intro λT l J=>by
 have I:=DI T l J;refine Bu func306 rfl (Ag func306 ZbI ZbI) rfl λv E=>?_;rw[ntmps306];refine Zfs ?_;rintro _ _ ⟨n,c,A,K,rfl,rfl⟩;refine Kr ?_;have f:=Fp A;have q:=K.len;have M:=Hu (p:=(GK G0)) A;by_cases F:n<=c.length
 .rw [Yan F]at M
  refine Wa<|Y0<|Ai<|Y1<|Wm<|Wm ?_;refine Wq (BZ (ao rfl)) ?_;refine Wq AB ?_;refine Wq Cm ?_;refine Wq (Dz (ao rfl) (Aa rfl)) ?_;refine Wq (AO (r:=((c.length:Nat):Int)) (ao rfl) (Aa rfl) (Aa rfl) (ET ZbD)) ?_;refine Wq AN ?_;refine Y0<|Cf<|Ys<|Y1<|Wa<|Y0<|Ai<|Y1<|Wm<|Wm<|Y0<|AWp.block ?_
  refine EH 6 111 4 rfl ZbH ZbH rfl rfl ?_;refine AC (λu d=>∃k h a,k<=n/\u=n-k/\h.length=k/\Byt a/\(Co (GK G0) n c=(Co (GK G0) (n-k) a).map λy=>(h++y.1,y.2))/\d=⟨[(0,.ptr 0 0),(1,.fn (270+1000000) [0]),(6,.own 2),(18,.d (ex (.int .u64 (n:Nat)))),(19,.d (ex (.int .u64 (k:Nat))))],[.var 92 [.d (GX T a)],.pin [(E,.own 0)],.row 111 4 (h.map Hh)]⟩) ?le ⟨0,[],c,Yaw _,rfl,rfl,K,by cases Co (GK G0) n c<;>rfl,rfl⟩ ?round
  case le=>exact Zkh
  case round=>
   rintro u _ ⟨k,h,a,C,rfl,N,G,X,rfl⟩;by_cases Q:k<n
   .have I:=V T a G
    refine Zft ?_;rintro _ _ ⟨x,H,B,z,rfl,rfl⟩;refine ZfP ?_;(refine EA (r2:=[Hh x]) (ao rfl) rfl rfl (Aa rfl) (Aa rfl) rfl rfl Zip Zip rfl ZbJ rfl ?_);exact Zhb
   .exact Zbd
 .exact Zbe
theorem A9f(V:Rdr 263 (λx:RTm=>AP (rtC x)) (IT G0)):Rdl 262 263 (λL:List (RTm)=>slD 114 12 (L.map rtC)) (IT G0):=Rdl.intro λT l J=>by
 have I:=DI T l J;refine Bu func262 rfl (Ag func262 ZbI ZbI) rfl λv E=>?_;rw[ntmps262];refine Zfs ?_;rintro _ _ ⟨n,c,A,K,rfl,rfl⟩;refine Kr ?_;have f:=Fp A;have q:=K.len;have M:=Hu (p:=(IT G0)) A;by_cases F:n<=c.length
 .rw [Yan F]at M
  refine Wa<|Y0<|Ai<|Y1<|Wm<|Wm ?_;refine Wq (BZ (ao rfl)) ?_;refine Wq AB ?_;refine Wq Cm ?_;refine Wq (Dz (ao rfl) (Aa rfl)) ?_;refine Wq (AO (r:=((c.length:Nat):Int)) (ao rfl) (Aa rfl) (Aa rfl) (ET ZbD)) ?_;refine Wq AN ?_;refine Y0<|Cf<|Ys<|Y1<|Wa<|Y0<|Ai<|Y1<|Wm<|Wm<|Y0<|AWp.block ?_
  refine EH 6 114 12 rfl ZbH ZbH rfl rfl ?_;refine AC (λu d=>∃k h a,k<=n/\u=n-k/\h.length=k/\Byt a/\(Co (IT G0) n c=(Co (IT G0) (n-k) a).map λy=>(h++y.1,y.2))/\d=⟨[(0,.ptr 0 0),(1,.fn (263+1000000) [0]),(6,.own 2),(18,.d (ex (.int .u64 (n:Nat)))),(19,.d (ex (.int .u64 (k:Nat))))],[.var 92 [.d (GX T a)],.pin [(E,.own 0)],.row 114 12 (h.map rtC)]⟩) ?le ⟨0,[],c,Yaw _,rfl,rfl,K,by cases Co (IT G0) n c<;>rfl,rfl⟩ ?round
  case le=>exact Zkh
  case round=>
   rintro u _ ⟨k,h,a,C,rfl,N,G,X,rfl⟩;by_cases Q:k<n
   .have I:=V T a G
    refine Zft ?_;rintro _ _ ⟨x,H,B,z,rfl,rfl⟩;refine ZfP ?_;(refine EA (r2:=[rtC x]) (ao rfl) rfl rfl (Aa rfl) (Aa rfl) rfl rfl Zip Zip rfl ZbJ rfl ?_);exact Zhb
   .exact Zbd
 .exact Zbe
theorem A9g(V:Rdr 185 (λx:List RTm=>KD x) (HD G0)):Rdl 261 185 (λL:List (List RTm)=>slD 28 1 (L.map (λp=>[KD p]))) (HD G0):=Rdl.intro λT l J=>by
 have I:=DI T l J;refine Bu func261 rfl (Ag func261 ZbI ZbI) rfl λv E=>?_;rw[ntmps261];refine Zfs ?_;rintro _ _ ⟨n,c,A,K,rfl,rfl⟩;refine Kr ?_;have f:=Fp A;have q:=K.len;have M:=Hu (p:=(HD G0)) A;by_cases F:n<=c.length
 .rw [Yan F]at M
  refine Wa<|Y0<|Ai<|Y1<|Wm<|Wm ?_;refine Wq (BZ (ao rfl)) ?_;refine Wq AB ?_;refine Wq Cm ?_;refine Wq (Dz (ao rfl) (Aa rfl)) ?_;refine Wq (AO (r:=((c.length:Nat):Int)) (ao rfl) (Aa rfl) (Aa rfl) (ET ZbD)) ?_;refine Wq AN ?_;refine Y0<|Cf<|Ys<|Y1<|Wa<|Y0<|Ai<|Y1<|Wm<|Wm<|Y0<|AWp.block ?_
  refine EH 6 28 1 rfl ZbH ZbH rfl rfl ?_;refine AC (λu d=>∃k h a,k<=n/\u=n-k/\h.length=k/\Byt a/\(Co (HD G0) n c=(Co (HD G0) (n-k) a).map λy=>(h++y.1,y.2))/\d=⟨[(0,.ptr 0 0),(1,.fn (185+1000000) [0]),(6,.own 2),(18,.d (ex (.int .u64 (n:Nat)))),(19,.d (ex (.int .u64 (k:Nat))))],[.var 92 [.d (GX T a)],.pin [(E,.own 0)],.row 28 1 (h.map (λp=>[KD p]))]⟩) ?le ⟨0,[],c,Yaw _,rfl,rfl,K,by cases Co (HD G0) n c<;>rfl,rfl⟩ ?round
  case le=>exact Zkh
  case round=>
   rintro u _ ⟨k,h,a,C,rfl,N,G,X,rfl⟩;by_cases Q:k<n
   .have I:=V T a G
    refine Zft ?_;rintro _ _ ⟨x,H,B,z,rfl,rfl⟩;refine Kr ?_
    (refine De rfl rfl ?_;(refine DF (Aa rfl) (Aa rfl) rfl rfl rfl rfl rfl ?_;(repeat ((first | refine⟨_,Aw (ao rfl),?_⟩ | refine⟨_,Po rfl,?_⟩);refine⟨_,rfl,?_⟩));refine⟨_,rfl,?_⟩));(refine EA (r2:=[(λp=>[KD p]) x]) (ao rfl) rfl rfl (Aa rfl) (Aa rfl) rfl rfl Zip Zip rfl ZbJ rfl ?_);exact Zhb
   .exact Zbd
 .exact Zbe
theorem A77(V:Rdr 184 (λx:List (List RTm)=>Ib x) (EL G0)):Rdl 268 184 (λL:List (List (List RTm))=>slD 24 1 (L.map (λp=>[Ib p]))) (EL G0):=Rdl.intro λT l J=>by
 have I:=DI T l J;refine Bu func268 rfl (Ag func268 ZbI ZbI) rfl λv E=>?_;rw[ntmps268];refine Zfs ?_;rintro _ _ ⟨n,c,A,K,rfl,rfl⟩;refine Kr ?_;have f:=Fp A;have q:=K.len;have M:=Hu (p:=(EL G0)) A;by_cases F:n<=c.length
 .rw [Yan F]at M
  refine Wa<|Y0<|Ai<|Y1<|Wm<|Wm ?_;refine Wq (BZ (ao rfl)) ?_;refine Wq AB ?_;refine Wq Cm ?_;refine Wq (Dz (ao rfl) (Aa rfl)) ?_;refine Wq (AO (r:=((c.length:Nat):Int)) (ao rfl) (Aa rfl) (Aa rfl) (ET ZbD)) ?_;refine Wq AN ?_;refine Y0<|Cf<|Ys<|Y1<|Wa<|Y0<|Ai<|Y1<|Wm<|Wm<|Y0<|AWp.block ?_
  refine EH 6 24 1 rfl ZbH ZbH rfl rfl ?_;refine AC (λu d=>∃k h a,k<=n/\u=n-k/\h.length=k/\Byt a/\(Co (EL G0) n c=(Co (EL G0) (n-k) a).map λy=>(h++y.1,y.2))/\d=⟨[(0,.ptr 0 0),(1,.fn (184+1000000) [0]),(6,.own 2),(18,.d (ex (.int .u64 (n:Nat)))),(19,.d (ex (.int .u64 (k:Nat))))],[.var 92 [.d (GX T a)],.pin [(E,.own 0)],.row 24 1 (h.map (λp=>[Ib p]))]⟩) ?le ⟨0,[],c,Yaw _,rfl,rfl,K,by cases Co (EL G0) n c<;>rfl,rfl⟩ ?round
  case le=>exact Zkh
  case round=>
   rintro u _ ⟨k,h,a,C,rfl,N,G,X,rfl⟩;by_cases Q:k<n
   .have I:=V T a G
    refine Zft ?_;rintro _ _ ⟨x,H,B,z,rfl,rfl⟩;refine Kr ?_
    (refine De rfl rfl ?_;(refine DF (Aa rfl) (Aa rfl) rfl rfl rfl rfl rfl ?_;(repeat ((first | refine⟨_,Aw (ao rfl),?_⟩ | refine⟨_,Po rfl,?_⟩);refine⟨_,rfl,?_⟩));refine⟨_,rfl,?_⟩));(refine EA (r2:=[(λp=>[Ib p]) x]) (ao rfl) rfl rfl (Aa rfl) (Aa rfl) rfl rfl Zip Zip rfl ZbJ rfl ?_);exact Zhb
   .exact Zbd
 .exact Zbe
theorem Ab8(V:Rdr 265 (λx:Nat->Int=>AP (CM x)) (Rp G0)):Rdl 264 265 (λL:List (Nat->Int)=>slD 36 8 (L.map CM)) (Rp G0):=Rdl.intro λT l J=>by
 have I:=DI T l J;refine Bu func264 rfl (Ag func264 ZbI ZbI) rfl λv E=>?_;rw[ntmps264];refine Zfs ?_;rintro _ _ ⟨n,c,A,K,rfl,rfl⟩;refine Kr ?_;have f:=Fp A;have q:=K.len;have M:=Hu (p:=(Rp G0)) A;by_cases F:n<=c.length
 .rw [Yan F]at M
  refine Wa<|Y0<|Ai<|Y1<|Wm<|Wm ?_;refine Wq (BZ (ao rfl)) ?_;refine Wq AB ?_;refine Wq Cm ?_;refine Wq (Dz (ao rfl) (Aa rfl)) ?_;refine Wq (AO (r:=((c.length:Nat):Int)) (ao rfl) (Aa rfl) (Aa rfl) (ET ZbD)) ?_;refine Wq AN ?_;refine Y0<|Cf<|Ys<|Y1<|Wa<|Y0<|Ai<|Y1<|Wm<|Wm<|Y0<|AWp.block ?_
  refine EH 6 36 8 rfl ZbH ZbH rfl rfl ?_;refine AC (λu d=>∃k h a,k<=n/\u=n-k/\h.length=k/\Byt a/\(Co (Rp G0) n c=(Co (Rp G0) (n-k) a).map λy=>(h++y.1,y.2))/\d=⟨[(0,.ptr 0 0),(1,.fn (265+1000000) [0]),(6,.own 2),(18,.d (ex (.int .u64 (n:Nat)))),(19,.d (ex (.int .u64 (k:Nat))))],[.var 92 [.d (GX T a)],.pin [(E,.own 0)],.row 36 8 (h.map CM)]⟩) ?le ⟨0,[],c,Yaw _,rfl,rfl,K,by cases Co (Rp G0) n c<;>rfl,rfl⟩ ?round
  case le=>exact Zkh
  case round=>
   rintro u _ ⟨k,h,a,C,rfl,N,G,X,rfl⟩;by_cases Q:k<n
   .have I:=V T a G
    refine Zft ?_;rintro _ _ ⟨x,H,B,z,rfl,rfl⟩;refine ZfP ?_;(refine EA (r2:=[CM x]) (ao rfl) rfl rfl (Aa rfl) (Aa rfl) rfl rfl Zip Zip rfl ZbJ rfl ?_);exact Zhb
   .exact Zbd
 .exact Zbe
theorem Ac2(V:Rdr 192 (λx:RQ×RQ=>AP (Jf x)) (Tk G0)):Rdl 191 192 (λL:List (RQ×RQ)=>slD 129 8 (L.map Jf)) (Tk G0):=Rdl.intro λT l J=>by
 have I:=DI T l J;refine Bu func191 rfl (Ag func191 ZbI ZbI) rfl λv E=>?_;rw[ntmps191];refine Zfs ?_;rintro _ _ ⟨n,c,A,K,rfl,rfl⟩;refine Kr ?_;have f:=Fp A;have q:=K.len;have M:=Hu (p:=(Tk G0)) A;by_cases F:n<=c.length
 .rw [Yan F]at M
  refine Wa<|Y0<|Ai<|Y1<|Wm<|Wm ?_;refine Wq (BZ (ao rfl)) ?_;refine Wq AB ?_;refine Wq Cm ?_;refine Wq (Dz (ao rfl) (Aa rfl)) ?_;refine Wq (AO (r:=((c.length:Nat):Int)) (ao rfl) (Aa rfl) (Aa rfl) (ET ZbD)) ?_;refine Wq AN ?_;refine Y0<|Cf<|Ys<|Y1<|Wa<|Y0<|Ai<|Y1<|Wm<|Wm<|Y0<|AWp.block ?_
  refine EH 6 129 8 rfl ZbH ZbH rfl rfl ?_;refine AC (λu d=>∃k h a,k<=n/\u=n-k/\h.length=k/\Byt a/\(Co (Tk G0) n c=(Co (Tk G0) (n-k) a).map λy=>(h++y.1,y.2))/\d=⟨[(0,.ptr 0 0),(1,.fn (192+1000000) [0]),(6,.own 2),(18,.d (ex (.int .u64 (n:Nat)))),(19,.d (ex (.int .u64 (k:Nat))))],[.var 92 [.d (GX T a)],.pin [(E,.own 0)],.row 129 8 (h.map Jf)]⟩) ?le ⟨0,[],c,Yaw _,rfl,rfl,K,by cases Co (Tk G0) n c<;>rfl,rfl⟩ ?round
  case le=>exact Zkh
  case round=>
   rintro u _ ⟨k,h,a,C,rfl,N,G,X,rfl⟩;by_cases Q:k<n
   .have I:=V T a G
    refine Zft ?_;rintro _ _ ⟨x,H,B,z,rfl,rfl⟩;refine ZfP ?_;(refine EA (r2:=[Jf x]) (ao rfl) rfl rfl (Aa rfl) (Aa rfl) rfl rfl Zip Zip rfl ZbJ rfl ?_);exact Zhb
   .exact Zbd
 .exact Zbe
theorem Ac0(V:Rdr 194 (λx:RQ×List RTm=>AP (Jq x)) (ZP G0)):Rdl 193 194 (λL:List (RQ×List RTm)=>slD 184 5 (L.map Jq)) (ZP G0):=Rdl.intro λT l J=>by
 have I:=DI T l J;refine Bu func193 rfl (Ag func193 ZbI ZbI) rfl λv E=>?_;rw[ntmps193];refine Zfs ?_;rintro _ _ ⟨n,c,A,K,rfl,rfl⟩;refine Kr ?_;have f:=Fp A;have q:=K.len;have M:=Hu (p:=(ZP G0)) A;by_cases F:n<=c.length
 .rw [Yan F]at M
  refine Wa<|Y0<|Ai<|Y1<|Wm<|Wm ?_;refine Wq (BZ (ao rfl)) ?_;refine Wq AB ?_;refine Wq Cm ?_;refine Wq (Dz (ao rfl) (Aa rfl)) ?_;refine Wq (AO (r:=((c.length:Nat):Int)) (ao rfl) (Aa rfl) (Aa rfl) (ET ZbD)) ?_;refine Wq AN ?_;refine Y0<|Cf<|Ys<|Y1<|Wa<|Y0<|Ai<|Y1<|Wm<|Wm<|Y0<|AWp.block ?_
  refine EH 6 184 5 rfl ZbH ZbH rfl rfl ?_;refine AC (λu d=>∃k h a,k<=n/\u=n-k/\h.length=k/\Byt a/\(Co (ZP G0) n c=(Co (ZP G0) (n-k) a).map λy=>(h++y.1,y.2))/\d=⟨[(0,.ptr 0 0),(1,.fn (194+1000000) [0]),(6,.own 2),(18,.d (ex (.int .u64 (n:Nat)))),(19,.d (ex (.int .u64 (k:Nat))))],[.var 92 [.d (GX T a)],.pin [(E,.own 0)],.row 184 5 (h.map Jq)]⟩) ?le ⟨0,[],c,Yaw _,rfl,rfl,K,by cases Co (ZP G0) n c<;>rfl,rfl⟩ ?round
  case le=>exact Zkh
  case round=>
   rintro u _ ⟨k,h,a,C,rfl,N,G,X,rfl⟩;by_cases Q:k<n
   .have I:=V T a G
    refine Zft ?_;rintro _ _ ⟨x,H,B,z,rfl,rfl⟩;refine ZfP ?_;(refine EA (r2:=[Jq x]) (ao rfl) rfl rfl (Aa rfl) (Aa rfl) rfl rfl Zip Zip rfl ZbJ rfl ?_);exact Zhb
   .exact Zbd
 .exact Zbe
theorem Ac1(V:Rdr 196 (λx:Nat->RQ=>AP (Mm x)) (ptP G0)):Rdl 195 196 (λL:List (Nat->RQ)=>slD 187 32 (L.map Mm)) (ptP G0):=Rdl.intro λT l J=>by
 have I:=DI T l J;refine Bu func195 rfl (Ag func195 ZbI ZbI) rfl λv E=>?_;rw[ntmps195];refine Zfs ?_;rintro _ _ ⟨n,c,A,K,rfl,rfl⟩;refine Kr ?_;have f:=Fp A;have q:=K.len;have M:=Hu (p:=(ptP G0)) A;by_cases F:n<=c.length
 .rw [Yan F]at M
  refine Wa<|Y0<|Ai<|Y1<|Wm<|Wm ?_;refine Wq (BZ (ao rfl)) ?_;refine Wq AB ?_;refine Wq Cm ?_;refine Wq (Dz (ao rfl) (Aa rfl)) ?_;refine Wq (AO (r:=((c.length:Nat):Int)) (ao rfl) (Aa rfl) (Aa rfl) (ET ZbD)) ?_;refine Wq AN ?_;refine Y0<|Cf<|Ys<|Y1<|Wa<|Y0<|Ai<|Y1<|Wm<|Wm<|Y0<|AWp.block ?_
  refine EH 6 187 32 rfl ZbH ZbH rfl rfl ?_;refine AC (λu d=>∃k h a,k<=n/\u=n-k/\h.length=k/\Byt a/\(Co (ptP G0) n c=(Co (ptP G0) (n-k) a).map λy=>(h++y.1,y.2))/\d=⟨[(0,.ptr 0 0),(1,.fn (196+1000000) [0]),(6,.own 2),(18,.d (ex (.int .u64 (n:Nat)))),(19,.d (ex (.int .u64 (k:Nat))))],[.var 92 [.d (GX T a)],.pin [(E,.own 0)],.row 187 32 (h.map Mm)]⟩) ?le ⟨0,[],c,Yaw _,rfl,rfl,K,by cases Co (ptP G0) n c<;>rfl,rfl⟩ ?round
  case le=>exact Zkh
  case round=>
   rintro u _ ⟨k,h,a,C,rfl,N,G,X,rfl⟩;by_cases Q:k<n
   .have I:=V T a G
    refine Zft ?_;rintro _ _ ⟨x,H,B,z,rfl,rfl⟩;refine ZfP ?_;(refine EA (r2:=[Mm x]) (ao rfl) rfl rfl (Aa rfl) (Aa rfl) rfl rfl Zip Zip rfl ZbJ rfl ?_);exact Zhb
   .exact Zbd
 .exact Zbe
theorem Abb(V:Rdr 267 (λx:Nat->RQ×RQ=>AP (Dv x)) (VT G0)):Rdl 266 267 (λL:List (Nat->RQ×RQ)=>slD 131 64 (L.map Dv)) (VT G0):=Rdl.intro λT l J=>by
 have I:=DI T l J;refine Bu func266 rfl (Ag func266 ZbI ZbI) rfl λv E=>?_;rw[ntmps266];refine Zfs ?_;rintro _ _ ⟨n,c,A,K,rfl,rfl⟩;refine Kr ?_;have f:=Fp A;have q:=K.len;have M:=Hu (p:=(VT G0)) A;by_cases F:n<=c.length
 .rw [Yan F]at M
  refine Wa<|Y0<|Ai<|Y1<|Wm<|Wm ?_;refine Wq (BZ (ao rfl)) ?_;refine Wq AB ?_;refine Wq Cm ?_;refine Wq (Dz (ao rfl) (Aa rfl)) ?_;refine Wq (AO (r:=((c.length:Nat):Int)) (ao rfl) (Aa rfl) (Aa rfl) (ET ZbD)) ?_;refine Wq AN ?_;refine Y0<|Cf<|Ys<|Y1<|Wa<|Y0<|Ai<|Y1<|Wm<|Wm<|Y0<|AWp.block ?_
  refine EH 6 131 64 rfl ZbH ZbH rfl rfl ?_;refine AC (λu d=>∃k h a,k<=n/\u=n-k/\h.length=k/\Byt a/\(Co (VT G0) n c=(Co (VT G0) (n-k) a).map λy=>(h++y.1,y.2))/\d=⟨[(0,.ptr 0 0),(1,.fn (267+1000000) [0]),(6,.own 2),(18,.d (ex (.int .u64 (n:Nat)))),(19,.d (ex (.int .u64 (k:Nat))))],[.var 92 [.d (GX T a)],.pin [(E,.own 0)],.row 131 64 (h.map Dv)]⟩) ?le ⟨0,[],c,Yaw _,rfl,rfl,K,by cases Co (VT G0) n c<;>rfl,rfl⟩ ?round
  case le=>exact Zkh
  case round=>
   rintro u _ ⟨k,h,a,C,rfl,N,G,X,rfl⟩;by_cases Q:k<n
   .have I:=V T a G
    refine Zft ?_;rintro _ _ ⟨x,H,B,z,rfl,rfl⟩;refine ZfP ?_;(refine EA (r2:=[Dv x]) (ao rfl) rfl rfl (Aa rfl) (Aa rfl) rfl rfl Zip Zip rfl ZbJ rfl ?_);exact Zhb
   .exact Zbd
 .exact Zbe
def Suf{A:Type}(p:Rd A):Prop:=∀l x m,p l=some (x,m)->∃k,m=l.drop k
theorem Suf.byt(h:Suf vI)(G:vI l=some (vQ,f))(J:Byt l):Byt f:=by
 obtain⟨k,rfl⟩:=h l vQ f G;exact J.drop k
theorem JW:Suf (Cq vQ):=λl x m h=>by cases h;exact⟨0,rfl⟩
theorem Suf.bind{p:Rd e}{f:e->Rd uz}(h:Suf p)(t:∀a,Suf (f a)):Suf (p.bind f):=λl x m E=>by
 unfold Rd.bind at E
 cases G:p l with
 |none=>rw[G]at E;cases E
 |some y=>
  obtain⟨a,c⟩:=y;rw[G]at E;obtain⟨k,rfl⟩:=h l a c G;obtain⟨j,rfl⟩:=t a _ x m E;exact⟨k+j,by rw[Ydi]⟩
theorem Suf.guard{c:List Nat->Bool}:Suf (Ju c):=λl x m h=>by
 unfold Ju at h;split at h
 .cases h;exact⟨0,rfl⟩
 .cases h
theorem Suf.rep{A:Type}{p:Rd A}(h:Suf p):∀n,Suf (Co p n)
 |0=>JW
 |n+1=>h.bind λ_=>(Suf.rep h n).bind λ_=>JW
theorem XH:∀(k s n:Nat),Suf (Nt k s n)
 |0,_,_,_,_,_,h=>by cases h
 |k+1,s,n,[],_,_,h=>by cases h
 |k+1,s,n,c::l,x,m,h=>by
  rw[Nt]at h
  dsimp only at h
  split at h
  .cases h
  .split at h
   .cases h;exact⟨1,rfl⟩
   .obtain ⟨j,rfl⟩:=XH k _ _ l x m h
    exact⟨j+1,by simp⟩
theorem Vy:Suf OM:=XH 10 1 0
theorem A4f:Suf KB:=λl x m h=>by
 unfold KB at h;split at h
 .cases h;exact⟨4,rfl⟩
 .cases h
theorem XR(h:Suf vI):Suf (Ff G0 vI):=Suf.bind Vy λ_=>Suf.guard.bind λ_=>h.rep _
theorem VH:Suf (Qd G0):=Suf.bind Vy λ_=>Suf.guard.bind λ_=>(A4f.rep _).bind λ_=>JW
theorem A1N:Suf (GK G0):=VH.bind λ_=>VH.bind λ_=>JW
theorem Rdr.con{B:FuncId}{d:e->D}(h:Rdr B d vI){T:TypeId}(J:Byt l)(G:vI l=some (vQ,f)):Con prog B [.ptr 0 0] (rH T l) [] (λr z=>r=.d (d vQ)/\z=rH T f):=
 ((h T l J).con (by rw [G]; exact fun h => by cases h)).mono fun r z ⟨N, a, A, _, L, S⟩ => by
  rw[G]at A;cases A;exact⟨L,S⟩
theorem Aq{P:Program}{o:Oper}{r:AV}(h:∃n,Quiet P H o vC n/\n=r):Quiet P H o vC r:=by
 obtain⟨n,A,rfl⟩:=h;exact A
theorem XV(V:Rdr 270 (λx:RQ=>AP (Hh x)) (GK G0)):Rdr 192 (λx:RQ×RQ=>AP (Jf x)) (Tk G0):=Rdr.intro λT l J=>by
 have I:=V T l J;refine Bu func192 rfl (Ag func192 ZbI ZbI) rfl λv G=>?_;rw[ntmps192];refine Zfw ?_;rintro _ _ ⟨a,F,A,K,rfl,rfl⟩;refine ZfO ?_
 cases B:GK G0 F with
 |none=>
  refine MY 0 (.var 92 [.d (GX T F)]) 2 4 [3,2,1,0] [.d (AP (Hh a)),.ptr 0 0,.d (AP (Hh default)),.d (AP (Jf (a,default)))] [[],[],[(7,1)],[(6,0),(8,2)]] [(3,.ptr 3 0),(0,.ptr 0 0)] ZbI rfl ⟨λ_=>rfl,(λC i=>by rw[YaC.1 i];rfl)⟩ ⟨rfl,rfl,trivial⟩ rfl rfl ZbI (by refine DSteps.q rfl ZbB ?_;refine DSteps.q rfl ZbB ?_;refine DSteps.k rfl (DCallP.mk (λ_=>rfl) (V T F K)) ?_;refine DSteps.q rfl ZbB ?_;exact DSteps.nil) ZbI ZdN (λR=>(by repeat (first | exact AM (by unfold Tk;rw[Rd.some A];exact Rd.none R) | apply AF | apply PanQ.block | apply PanQ.loop):PanQ _ _))
 |some y=>
  obtain⟨c,E⟩:=y;refine MZ 0 (.var 92 [.d (GX T F)]) (.var 92 [.d (GX T E)]) 2 4 [3,2,1,0] [.d (AP (Hh a)),.ptr 0 0,.d (AP (Hh c)),.d (AP (Jf (a,c)))] [[],[],[(7,1)],[(6,0),(8,2)]] [(3,.ptr 3 0),(0,.ptr 0 0),(2,.ptr 2 0)] [(9,.d (AP (Jf (a,c)))),(2,.ptr 2 0)] ZbI rfl ⟨λ_=>rfl,λ_=>rfl,(λC i=>by rw[YaC.1 i];rfl)⟩ ⟨rfl,rfl,rfl,trivial⟩ rfl rfl ZbI ZbI (by refine DSteps.q rfl ZbB ?_;refine DSteps.q rfl ZbB ?_;refine DSteps.k rfl (DCall.mk (λ_=>rfl) (V.con K B)) ?_;refine DSteps.q rfl ZbB ?_;exact DSteps.nil) ZbI ⟨rfl,rfl,trivial⟩ [.var 92 [.d (GX T E)],.pin [(G,.own 0)],.var 129 ([ex (.bool false),ex (.slice none 0 0),ex (.bool false),ex (.slice none 0 0),ex (.bool false),ex (.slice none 0 0),ex (.bool false),ex (.slice none 0 0)].map .d),.var 111 ((Hh a).map .d)] rfl ?_;refine Zfv ?_;exact⟨(a,c),E,by unfold Tk;rw[Rd.some A,Rd.some B];rfl,A1N.byt B K,rfl,rfl⟩
def inC(x:Bool×List Nat):List D:=[ex (.bool x.1),wD x.2]
theorem Xo(L:Rdr 307 (λx:Bool×List Nat=>AP (inC x)) (Qd G0)):Rdr 270 (λx:RQ=>AP (Hh x)) (GK G0):=Rdr.intro λT l J=>by
 have I:=L T l J;refine Bu func270 rfl (Ag func270 ZbI ZbI) rfl λv G=>?_;rw[ntmps270];refine Zfw ?_;rintro _ _ ⟨a,F,A,K,rfl,rfl⟩;refine ZfO ?_
 cases B:(Qd G0) F with
 |none=>
  refine MY 0 (.var 92 [.d (GX T F)]) 2 4 [3,2,1,0] [.d (AP (inC a)),.ptr 0 0,.d (AP (inC (false,[]))),.d (AP (Hh ⟨a.1,a.2,false,[]⟩))] [[],[],[(7,1)],[(6,0),(8,2)]] [(3,.ptr 3 0),(0,.ptr 0 0)] ZbI rfl ⟨λ_=>rfl,(λC i=>by rw[YaC.1 i];rfl)⟩ ⟨rfl,rfl,trivial⟩ rfl rfl ZbI (by refine DSteps.q rfl ZbB ?_;refine DSteps.q rfl ZbB ?_;refine DSteps.k rfl (DCallP.mk (λ_=>rfl) (L T F K)) ?_;refine DSteps.q rfl ZbB ?_;exact DSteps.nil) ZbI ZdN (λR=>(by repeat (first | exact AM (by unfold GK;rw[Rd.some A];exact Rd.none R) | apply AF | apply PanQ.block | apply PanQ.loop):PanQ _ _))
 |some y=>
  obtain⟨c,E⟩:=y;refine MZ 0 (.var 92 [.d (GX T F)]) (.var 92 [.d (GX T E)]) 2 4 [3,2,1,0] [.d (AP (inC a)),.ptr 0 0,.d (AP (inC c)),.d (AP (Hh ⟨a.1,a.2,c.1,c.2⟩))] [[],[],[(7,1)],[(6,0),(8,2)]] [(3,.ptr 3 0),(0,.ptr 0 0),(2,.ptr 2 0)] [(9,.d (AP (Hh ⟨a.1,a.2,c.1,c.2⟩))),(2,.ptr 2 0)] ZbI rfl ⟨λ_=>rfl,λ_=>rfl,(λC i=>by rw[YaC.1 i];rfl)⟩ ⟨rfl,rfl,rfl,trivial⟩ rfl rfl ZbI ZbI (by refine DSteps.q rfl ZbB ?_;refine DSteps.q rfl ZbB ?_;refine DSteps.k rfl (DCall.mk (λ_=>rfl) (L.con K B)) ?_;refine DSteps.q rfl ZbB ?_;exact DSteps.nil) ZbI ⟨rfl,rfl,trivial⟩ [.var 92 [.d (GX T E)],.pin [(G,.own 0)],.var 111 ([ex (.bool false),ex (.slice none 0 0),ex (.bool false),ex (.slice none 0 0)].map .d),.var 109 ((inC a).map .d)] rfl ?_;refine Zfv ?_;exact⟨_,E,by unfold GK;rw[Rd.some A,Rd.some B];rfl,VH.byt B K,rfl,rfl⟩
theorem Xu:Suf (HD G0):=XR (A1N.bind λ_=>Suf.bind (Suf.bind (Suf.rep (Suf.bind Vy λn l x m h=>by(split at h<;>cases h);exact⟨0,rfl⟩) 8) λ_=>JW) λ_=>JW)
theorem A2E(L:Rdr 270 (λx:RQ=>AP (Hh x)) (GK G0))(t:Rdr 185 (λx:List RTm=>KD x) (HD G0)):Rdr 194 (λx:RQ×List RTm=>AP (Jq x)) (ZP G0):=Rdr.intro λT l J=>by
 have I:=L T l J;refine Bu func194 rfl (Ag func194 ZbI ZbI) rfl λv G=>?_;rw[ntmps194];refine Zfw ?_;rintro _ _ ⟨a,F,A,K,rfl,rfl⟩;refine ZfO ?_
 cases B:(HD G0) F with
 |none=>
  refine MY 0 (.var 92 [.d (GX T F)]) 2 4 [3,2,1,0] [.d (AP (Hh a)),.ptr 0 0,.d (KD ([]:List RTm)),.d (AP (Jq (a,([]:List RTm))))] [[],[],[(7,1)],[(6,0),(8,2)]] [(3,.ptr 3 0),(0,.ptr 0 0)] ZbI rfl ⟨λ_=>rfl,(λC i=>by rw[YaC.1 i];rfl)⟩ ⟨rfl,rfl,trivial⟩ rfl rfl ZbI (by refine DSteps.q rfl ZbB ?_;refine DSteps.q rfl ZbB ?_;refine DSteps.k rfl (DCallP.mk (λ_=>rfl) (t T F K)) ?_;refine DSteps.q rfl ZbB ?_;exact DSteps.nil) ZbI ZdN (λR=>(by repeat (first | exact AM (by unfold ZP;rw[Rd.some A];exact Rd.none R) | apply AF | apply PanQ.block | apply PanQ.loop):PanQ _ _))
 |some y=>
  obtain⟨c,E⟩:=y;refine MZ 0 (.var 92 [.d (GX T F)]) (.var 92 [.d (GX T E)]) 2 4 [3,2,1,0] [.d (AP (Hh a)),.ptr 0 0,.d (KD c),.d (AP (Jq (a,c)))] [[],[],[(7,1)],[(6,0),(8,2)]] [(3,.ptr 3 0),(0,.ptr 0 0),(2,.ptr 2 0)] [(9,.d (AP (Jq (a,c)))),(2,.ptr 2 0)] ZbI rfl ⟨λ_=>rfl,λ_=>rfl,(λC i=>by rw[YaC.1 i];rfl)⟩ ⟨rfl,rfl,rfl,trivial⟩ rfl rfl ZbI ZbI (by refine DSteps.q rfl ZbB ?_;refine DSteps.q rfl ZbB ?_;refine DSteps.k rfl (DCall.mk (λ_=>rfl) (t.con K B)) ?_;refine DSteps.q rfl ZbB ?_;exact DSteps.nil) ZbI ⟨rfl,rfl,trivial⟩ [.var 92 [.d (GX T E)],.pin [(G,.own 0)],.var 184 ([ex (.bool false),ex (.slice none 0 0),ex (.bool false),ex (.slice none 0 0),ex (.slice none 0 0)].map .d),.var 111 ((Hh a).map .d)] rfl ?_;refine Zfv ?_;exact⟨_,E,by unfold ZP;rw[Rd.some A,Rd.some B];rfl,Xu.byt B K,rfl,rfl⟩
theorem Te(V:Rdr 270 (λx:RQ=>AP (Hh x)) (GK G0)):Rdr 269 (λL:List (RQ)=>GY L) (QR G0):=Rdr.intro λT l J=>by
 have I:=Ab9 V T l J;refine Bu func269 rfl (Ag func269 ZbI ZbI) rfl λv B=>?_;rw[ntmps269];exact ZhU
theorem A7b(V:Rdr 263 (λx:RTm=>AP (rtC x)) (IT G0)):Rdr 185 (λL:List (RTm)=>KD L) (HD G0):=Rdr.intro λT l J=>by
 have I:=A9f V T l J;refine Bu func185 rfl (Ag func185 ZbI ZbI) rfl λv B=>?_;rw[ntmps185];exact ZhU
theorem A4W(V:Rdr 185 (λx:List RTm=>KD x) (HD G0)):Rdr 184 (λL:List (List RTm)=>Ib L) (EL G0):=Rdr.intro λT l J=>by
 have I:=A9g V T l J;refine Bu func184 rfl (Ag func184 ZbI ZbI) rfl λv B=>?_;rw[ntmps184];exact ZhU
theorem A2A(V:Rdr 184 (λx:List (List RTm)=>Ib x) (EL G0)):Rdr 189 (λL:List (List (List RTm))=>SY L) (MB G0):=Rdr.intro λT l J=>by
 have I:=A77 V T l J;refine Bu func189 rfl (Ag func189 ZbI ZbI) rfl λv B=>?_;rw[ntmps189];exact ZhU
theorem A52(V:Rdr 265 (λx:Nat->Int=>AP (CM x)) (Rp G0)):Rdr 186 (λL:List (Nat->Int)=>Ep L) (MF G0):=Rdr.intro λT l J=>by
 have I:=Ab8 V T l J;refine Bu func186 rfl (Ag func186 ZbI ZbI) rfl λv B=>?_;rw[ntmps186];exact ZhU
theorem A5S(V:Rdr 267 (λx:Nat->RQ×RQ=>AP (Dv x)) (VT G0)):Rdr 188 (λL:List (Nat->RQ×RQ)=>Gb L) (MO G0):=Rdr.intro λT l J=>by
 have I:=Abb V T l J;refine Bu func188 rfl (Ag func188 ZbI ZbI) rfl λv B=>?_;rw[ntmps188];exact ZhU
theorem LR{x d:e}(h:vu.length=n):(λi=>(vu++[x]).getD i d)=λi=>if i=n then x else vu.getD i d:=by
 funext i;rw[Yab,Yab];split
 .rename_i A
  subst A;subst h;simp
 .rename_i A
  rcases YaG i n with B | B
  .rw [Yau ZbD]
  .rw [YbF Zip,YbF ZbD]
theorem RE:Rdr 265 (λa:Nat->Int=>AP (CM a)) (Rp G0):=Rdr.intro λT l J=>by
 refine Bu func265 rfl (Ag func265 ZbI ZbI) rfl λv B=>?_;rw[ntmps265];refine Go ?_;refine AC (λu d=>∃k h A,k<=8/\u=8-k/\h.length=k/\Byt A/\(Co (If G0) 8 l=(Co (If G0) (8-k) A).map λy=>(h++y.1,y.2))/\d=⟨[(0,.ptr 0 0),(2,.ptr 2 0),(4,.d (ex (.int .i64 (k:Nat))))],[.var 92 [.d (GX T A)],.pin [(B,.own 0)],.var 36 ((CM λi=>h.getD i default).map .d)]⟩) ?le ⟨0,[],l,Yaw _,rfl,rfl,J,by cases Co (If G0) 8 l<;>rfl,rfl⟩ ?round
 case le=>exact Ac ZcT (by exact HpLe.cons (Ad rfl)<|HpLe.cons (Ak rfl)<|HpLe.cons (Ad rfl)<|HpLe.nil)
 case round=>
  rintro u _ ⟨k,h,A,C,rfl,V,F,X,rfl⟩;by_cases Q:k<8
  .have I:=GB T A F
   refine Go ?_;refine Bc [0] [] [] (I) (BX rfl) (λR=>(by repeat (first | exact AM (Rd.none (DW Q X R)) | apply AF | apply PanQ.block | apply PanQ.loop):PanQ _ _) _) rfl rfl ZbC ZbA ZbH Zby ZbE trivial rfl ?_;rintro _ _ ⟨x,H,L,z,rfl,rfl⟩;refine Kr ?_;refine Wq SD ?_;refine LA (ao rfl) (ao rfl) rfl (Aa rfl) (by first | exact CU rfl) (SetAt.mon Q) rfl ?_;refine Go ?_;refine Ah (8-(k+1)) ZbD ⟨k+1,h++[x],H,by omega,rfl,by simp[V],z,DV Q X L,rfl⟩ ?_;exact Ac ZcT (by refine HpLe.cons (Ad rfl) ?_;refine HpLe.cons (Ak rfl) ?_;(refine HpLe.cons (OwLe.varD (by rw[LR V];rfl)) ?_);exact HpLe.nil)
  .obtain rfl:k=8:=by omega
   refine Zfv ?_;exact⟨λi=>h.getD i default,A,by show KR (If G0) l=_;unfold KR;rw[Rd.some (a:=h) (l':=A) Zfm];rfl,F,rfl,rfl⟩
theorem Bk:D.le (ex (.slice none 0 0)) (wD []):=λs v h=>⟨AL s v h,by intro x E;cases E⟩
def AllLe:List D->List D->Prop
 |a::l,b::r=>D.le a b/\AllLe l r
 |[],[]=>True
 |_,_=>False
theorem AllLe.get:∀{l r:List D},AllLe l r->l.length=r.length/\∀(k:Nat) y,r[k]? = some y->∃x,l[k]? = some x/\D.le x y
 |[],[],_=>⟨rfl,λk y h=>by cases h⟩
 |[],_::_,h=>h.elim
 |_::_,[],h=>h.elim
 |a::l,b::r,⟨A,B⟩=>by
  obtain⟨L,S⟩:=AllLe.get B;refine⟨by simp[L],λk y h=>?_⟩
  cases k with
  |zero=>cases h;exact⟨a,rfl,A⟩
  |succ k=>exact S k y Zdi
theorem Hp{c l:List D}(h:AllLe c l):OwLe H n (.var b (c.map .d)) (.var b (l.map .d)):=by
 obtain⟨A,B⟩:=h.get;refine OwLe.var (by simp[A]) λk y O=>?_;rw[Yax]at O
 cases I:l[k]? with
 |none=>rw[I]at O;cases O
 |some z=>
  rw[I]at O;cases O;obtain⟨x,E,J⟩:=B k z I;exact⟨.d x,by rw[Yax,E];rfl,AVle.le J⟩
theorem XC{c:e->List D}{x d:e}(h:vu.length=n):GL (ZH (λi=>c (vu.getD i d)) n (c x))=GL λi=>c ((vu++[x]).getD i d):=by
 congr 1;funext i;rw[congrFun (LR h) i];unfold ZH;split<;>rfl
theorem Hm{c:Nat->List D}{n i:Nat}{v:List D}(h:∀i,(c i).length=n)(r:v.length=n)(K:i<8):SetAt (GL c) (0+i*n) v (GL (ZH c i v)):=by
 rw[YaH];exact A3m h r K
theorem QN:AllLe [ex (.bool false),ex (.slice none 0 0),ex (.bool false),ex (.slice none 0 0),ex (.bool false),ex (.slice none 0 0),ex (.bool false),ex (.slice none 0 0),ex (.bool false),ex (.slice none 0 0),ex (.bool false),ex (.slice none 0 0),ex (.bool false),ex (.slice none 0 0),ex (.bool false),ex (.slice none 0 0),ex (.bool false),ex (.slice none 0 0),ex (.bool false),ex (.slice none 0 0),ex (.bool false),ex (.slice none 0 0),ex (.bool false),ex (.slice none 0 0),ex (.bool false),ex (.slice none 0 0),ex (.bool false),ex (.slice none 0 0),ex (.bool false),ex (.slice none 0 0),ex (.bool false),ex (.slice none 0 0)] (GL λi=>Hh (([]:List (RQ)).getD i default)):=⟨D.le.refl _,⟨Bk,⟨D.le.refl _,⟨Bk,⟨D.le.refl _,⟨Bk,⟨D.le.refl _,⟨Bk,⟨D.le.refl _,⟨Bk,⟨D.le.refl _,⟨Bk,⟨D.le.refl _,⟨Bk,⟨D.le.refl _,⟨Bk,⟨D.le.refl _,⟨Bk,⟨D.le.refl _,⟨Bk,⟨D.le.refl _,⟨Bk,⟨D.le.refl _,⟨Bk,⟨D.le.refl _,⟨Bk,⟨D.le.refl _,⟨Bk,⟨D.le.refl _,⟨Bk,⟨D.le.refl _,⟨Bk,trivial⟩⟩⟩⟩⟩⟩⟩⟩⟩⟩⟩⟩⟩⟩⟩⟩⟩⟩⟩⟩⟩⟩⟩⟩⟩⟩⟩⟩⟩⟩⟩⟩
theorem A4Z(V:Rdr 270 (λx:RQ=>AP (Hh x)) (GK G0)):Rdr 196 (λf:Nat->RQ=>AP (Mm f)) (ptP G0):=Rdr.intro λT l J=>by
 refine Bu func196 rfl (Ag func196 ZbI ZbI) rfl λv A=>?_;rw[ntmps196];refine Go ?_;refine AC (λu d=>∃k h a,k<=8/\u=8-k/\h.length=k/\Byt a/\(Co (GK G0) 8 l=(Co (GK G0) (8-k) a).map λy=>(h++y.1,y.2))/\d=⟨[(0,.ptr 0 0),(2,.ptr 2 0),(4,.d (ex (.int .i64 (k:Nat))))],[.var 92 [.d (GX T a)],.pin [(A,.own 0)],.var 187 ((GL λi=>Hh (h.getD i default)).map .d)]⟩) ?le ⟨0,[],l,Yaw _,rfl,rfl,J,by cases Co (GK G0) 8 l<;>rfl,rfl⟩ ?round
 case le=>exact Ac ZcT (by exact HpLe.cons (Ad rfl)<|HpLe.cons (Ak rfl)<|HpLe.cons (Hp QN)<|HpLe.nil)
 case round=>
  rintro u _ ⟨k,h,a,C,rfl,B,F,X,rfl⟩;by_cases Q:k<8
  .exact Zbf
  .obtain rfl:k=8:=by omega
   refine Zfv ?_;exact⟨λi=>h.getD i default,a,by show KR (GK G0) l=_;unfold KR;rw[Rd.some (a:=h) (l':=a) Zfm];rfl,F,rfl,rfl⟩
theorem QO:AllLe [ex (.bool false),ex (.slice none 0 0),ex (.bool false),ex (.slice none 0 0),ex (.bool false),ex (.slice none 0 0),ex (.bool false),ex (.slice none 0 0),ex (.bool false),ex (.slice none 0 0),ex (.bool false),ex (.slice none 0 0),ex (.bool false),ex (.slice none 0 0),ex (.bool false),ex (.slice none 0 0),ex (.bool false),ex (.slice none 0 0),ex (.bool false),ex (.slice none 0 0),ex (.bool false),ex (.slice none 0 0),ex (.bool false),ex (.slice none 0 0),ex (.bool false),ex (.slice none 0 0),ex (.bool false),ex (.slice none 0 0),ex (.bool false),ex (.slice none 0 0),ex (.bool false),ex (.slice none 0 0),ex (.bool false),ex (.slice none 0 0),ex (.bool false),ex (.slice none 0 0),ex (.bool false),ex (.slice none 0 0),ex (.bool false),ex (.slice none 0 0),ex (.bool false),ex (.slice none 0 0),ex (.bool false),ex (.slice none 0 0),ex (.bool false),ex (.slice none 0 0),ex (.bool false),ex (.slice none 0 0),ex (.bool false),ex (.slice none 0 0),ex (.bool false),ex (.slice none 0 0),ex (.bool false),ex (.slice none 0 0),ex (.bool false),ex (.slice none 0 0),ex (.bool false),ex (.slice none 0 0),ex (.bool false),ex (.slice none 0 0),ex (.bool false),ex (.slice none 0 0),ex (.bool false),ex (.slice none 0 0)] (GL λi=>Jf (([]:List (RQ×RQ)).getD i default)):=⟨D.le.refl _,⟨Bk,⟨D.le.refl _,⟨Bk,⟨D.le.refl _,⟨Bk,⟨D.le.refl _,⟨Bk,⟨D.le.refl _,⟨Bk,⟨D.le.refl _,⟨Bk,⟨D.le.refl _,⟨Bk,⟨D.le.refl _,⟨Bk,⟨D.le.refl _,⟨Bk,⟨D.le.refl _,⟨Bk,⟨D.le.refl _,⟨Bk,⟨D.le.refl _,⟨Bk,⟨D.le.refl _,⟨Bk,⟨D.le.refl _,⟨Bk,⟨D.le.refl _,⟨Bk,⟨D.le.refl _,⟨Bk,⟨D.le.refl _,⟨Bk,⟨D.le.refl _,⟨Bk,⟨D.le.refl _,⟨Bk,⟨D.le.refl _,⟨Bk,⟨D.le.refl _,⟨Bk,⟨D.le.refl _,⟨Bk,⟨D.le.refl _,⟨Bk,⟨D.le.refl _,⟨Bk,⟨D.le.refl _,⟨Bk,⟨D.le.refl _,⟨Bk,⟨D.le.refl _,⟨Bk,⟨D.le.refl _,⟨Bk,⟨D.le.refl _,⟨Bk,⟨D.le.refl _,⟨Bk,⟨D.le.refl _,⟨Bk,⟨D.le.refl _,⟨Bk,trivial⟩⟩⟩⟩⟩⟩⟩⟩⟩⟩⟩⟩⟩⟩⟩⟩⟩⟩⟩⟩⟩⟩⟩⟩⟩⟩⟩⟩⟩⟩⟩⟩⟩⟩⟩⟩⟩⟩⟩⟩⟩⟩⟩⟩⟩⟩⟩⟩⟩⟩⟩⟩⟩⟩⟩⟩⟩⟩⟩⟩⟩⟩⟩⟩
theorem Aae(V:Rdr 192 (λx:RQ×RQ=>AP (Jf x)) (Tk G0)):Rdr 267 (λf:Nat->RQ×RQ=>AP (Dv f)) (VT G0):=Rdr.intro λT l J=>by
 refine Bu func267 rfl (Ag func267 ZbI ZbI) rfl λv A=>?_;rw[ntmps267];refine Go ?_;refine AC (λu d=>∃k h a,k<=8/\u=8-k/\h.length=k/\Byt a/\(Co (Tk G0) 8 l=(Co (Tk G0) (8-k) a).map λy=>(h++y.1,y.2))/\d=⟨[(0,.ptr 0 0),(2,.ptr 2 0),(4,.d (ex (.int .i64 (k:Nat))))],[.var 92 [.d (GX T a)],.pin [(A,.own 0)],.var 131 ((GL λi=>Jf (h.getD i default)).map .d)]⟩) ?le ⟨0,[],l,Yaw _,rfl,rfl,J,by cases Co (Tk G0) 8 l<;>rfl,rfl⟩ ?round
 case le=>exact Ac ZcT (by exact HpLe.cons (Ad rfl)<|HpLe.cons (Ak rfl)<|HpLe.cons (Hp QO)<|HpLe.nil)
 case round=>
  rintro u _ ⟨k,h,a,C,rfl,B,F,X,rfl⟩;by_cases Q:k<8
  .exact Zbf
  .obtain rfl:k=8:=by omega
   refine Zfv ?_;exact⟨λi=>h.getD i default,a,by show KR (Tk G0) l=_;unfold KR;rw[Rd.some (a:=h) (l':=a) Zfm];rfl,F,rfl,rfl⟩
theorem SetAt.rt{t:RTm}{z:Int}(h:n<8):SetAt (rtC t) (0+4+n*1) [ex (.int .i64 z)] (rtC { t with m:=Rm t.m n z }):=by
 rcases lt8 h with rfl | rfl | rfl | rfl | rfl | rfl | rfl | rfl<;>exact⟨YbA rfl,rfl⟩
theorem A6X(V:Rdr 270 (λx:RQ=>AP (Hh x)) (GK G0)):Rdr 263 (λt:RTm=>AP (rtC t)) (IT G0):=Rdr.intro λT l J=>by
 have I:=V T l J;refine Bu func263 rfl (Ag func263 ZbI ZbI) rfl λv G=>?_;rw[ntmps263];refine Zfw ?_;rintro _ _ ⟨a,N,c,O,rfl,rfl⟩;refine ZfO ?_;refine AC (λu d=>∃k h A,k<=8/\u=8-k/\h.length=k/\Byt A/\(Co (Qf G0) 8 N=(Co (Qf G0) (8-k) A).map λy=>(h++y.1,y.2))/\d=⟨[(0,.ptr 0 0),(2,.ptr 2 0),(3,.ptr 3 0),(9,.d (ex (.int .i64 (k:Nat))))],[.var 92 [.d (GX T A)],.pin [(G,.own 0)],.var 114 ([ex (.bool false),ex (.slice none 0 0),ex (.bool false),ex (.slice none 0 0),ex (.int .i64 0),ex (.int .i64 0),ex (.int .i64 0),ex (.int .i64 0),ex (.int .i64 0),ex (.int .i64 0),ex (.int .i64 0),ex (.int .i64 0)].map .d),.var 114 ((rtC ⟨a.b,a.l,a.b',a.l',λi=>h.getD i default⟩).map .d)]⟩) ?le ⟨0,[],N,Yaw _,rfl,rfl,O,by cases Co (Qf G0) 8 N<;>rfl,rfl⟩ ?round
 case le=>exact Ac Zde (by exact HpLe.cons (Ad rfl)<|HpLe.cons (Ak rfl)<|HpLe.cons (Ad rfl)<|HpLe.cons (Ad rfl)<|HpLe.nil)
 case round=>
  rintro u _ ⟨k,h,A,C,rfl,M,K,X,rfl⟩
  have B:∀{r},Co (Qf G0) 8 N=r->IT G0 l=(match r with | none=>none | some (W,H)=>some (⟨a.b,a.l,a.b',a.l',λi=>W.getD i default⟩,H)):=λ{r} X=>by
   unfold IT;rw[Rd.some c];unfold KR Rd.bind;rw[X];cases r<;>rfl
  by_cases Q:k<8
  .have I:=DI T A K
   refine Go ?_;refine Bc [0] [] [] (I) (BX rfl) (λR=>(by repeat (first | exact AM (B (DW Q X (Rd.none R))) | apply AF | apply PanQ.block | apply PanQ.loop):PanQ _ _) _) rfl rfl ZbC ZbA ZbH Zby ZbE trivial rfl ?_;rintro _ _ ⟨n,H,L,z,rfl,rfl⟩;refine Kr ?_;have f:=Fp L;by_cases F:65535<n
   .have E:Qf G0 A=none:=by
     unfold Qf;rw[Rd.some (p:=G0.nat) L];exact Yai (by simp[G0];omega)
    refine Go ?_;refine Wq (EK (ao rfl) (Aa rfl)) ?_;refine Dr (ao rfl) ?_;exact(by repeat (first | exact AM (B (DW Q X E)) | apply AF | apply PanQ.block | apply PanQ.loop):PanQ _ _) _
   .have E:Qf G0 A=some ((n:Int),H):=by
     unfold Qf;rw[Rd.some (p:=G0.nat) L];exact Yan (by simp[G0];omega)
    refine Wa<|Y0<|Ai<|Y1<|Wm ?_;refine Wq AN ?_;refine Y0<|Cf<|Ys<|AWp.region<|Wm<|Wm ?_;refine Wq (AO (r:=((n:Nat):Int)) (ao rfl) (Aa rfl) (Aa rfl) ZeD) ?_;refine Wq AB ?_;refine Wq SD ?_;refine LA (ao rfl) (ao rfl) rfl (Aa rfl) (by first | exact CU rfl) (SetAt.rt Q) rfl ?_;refine AWl.nil<|Bh<|Yn<|AWp.region ?_;refine Wq CJ ?_;refine Wm<|AWl.nil ?_
    refine Ah (8-(k+1)) ZbD ⟨k+1,h++[(n:Int)],H,by omega,rfl,by simp[M],z,DV Q X E,rfl⟩ ?_;exact Ac Zde Zdf
  .obtain rfl:k=8:=by omega
   refine Zfv ?_;exact⟨_,A,by rw[B X];simp[Co,Cq],K,rfl,rfl⟩
theorem A7K(M:Rdr 184 (λL:List (List RTm)=>Ib L) (EL G0))(r:Suf (EL G0)):Rdr 96 (λk:Cor=>AP (Eb k)) (VQ G0):=Rdr.intro λT l J=>by
 have I:=GB T l J;refine Bu func96 rfl (Ag func96 ZbI ZbI) rfl λv x=>?_;rw[ntmps96];refine Zfw ?_;rintro _ _ ⟨n,c,A,G,rfl,rfl⟩;refine Kr ?_;have W:=M T c G;refine Go ?_;refine Bc [0] [] [] (W) (BX rfl) (λR=>(by repeat (first | exact AM (by unfold VQ;rw[Rd.some A];exact Rd.none R) | apply AF | apply PanQ.block | apply PanQ.loop):PanQ _ _) _) rfl rfl ZbC ZbA ZbH Zby ZbE trivial rfl ?_;rintro _ _ ⟨e,a,B,F,rfl,rfl⟩;refine Kr ?_;have E:=M T a F;refine Go ?_;refine Bc [0] [] [] (E) (BX rfl) (λR=>(by repeat (first | exact AM (by unfold VQ;rw[Rd.some A,Rd.some B];exact Rd.none R) | apply AF | apply PanQ.block | apply PanQ.loop):PanQ _ _) _) rfl rfl ZbC ZbA ZbH Zby ZbE trivial rfl ?_;rintro _ _ ⟨f,H,C,z,rfl,rfl⟩;refine Kr ?_;refine Zfv ?_;exact⟨⟨n,e,f⟩,H,by unfold VQ;rw[Rd.some A,Rd.some B,Rd.some C];rfl,z,rfl,rfl⟩
theorem A5L(xe:Rdr 185 (λx:List RTm=>KD x) (HD G0))(U:Rdr 184 (λx:List (List RTm)=>Ib x) (EL G0))(P:Rdr 186 (λx:List (Nat->Int)=>Ep x) (MF G0))(w:Rdr 188 (λx:List (Nat->RQ×RQ)=>Gb x) (MO G0)):Rdr 97 (λc:Clm=>AP (EE c)) (Mo G0):=Rdr.intro λT l J=>by
 have N:=GB T l J;refine Bu func97 rfl (Ag func97 ZbI ZbI) rfl λv G=>?_;rw[ntmps97];refine Go ?_;refine Bc [0] [] [] (N) (BX rfl) (λR=>(by repeat (first | exact AM (by unfold Mo;exact Rd.none R) | apply AF | apply PanQ.block | apply PanQ.loop):PanQ _ _) _) rfl rfl ZbC ZbA ZbH Zby ZbE trivial rfl ?_;rintro _ _ ⟨kind,F,A,K,rfl,rfl⟩;refine Kr ?_;have M:=xe T F K;refine Go ?_;refine Bc [0] [] [] (M) (BX rfl) (λR=>(by repeat (first | exact AM (by unfold Mo;rw[Rd.some A];exact Rd.none R) | apply AF | apply PanQ.block | apply PanQ.loop):PanQ _ _) _) rfl rfl ZbC ZbA ZbH Zby ZbE trivial rfl ?_;rintro _ _ ⟨p,a,B,I,rfl,rfl⟩;refine Kr ?_;have W:=GB T a I;refine Go ?_;refine Bc [0] [] [] (W) (BX rfl) (λR=>(by repeat (first | exact AM (by unfold Mo;rw[Rd.some A,Rd.some B];exact Rd.none R) | apply AF | apply PanQ.block | apply PanQ.loop):PanQ _ _) _) rfl rfl ZbC ZbA ZbH Zby ZbE trivial rfl ?_;rintro _ _ ⟨n,H,L,z,rfl,rfl⟩;refine Kr ?_;have O:=GB T H z;refine Go ?_;refine Bc [0] [] [] (O) (BX rfl) (λR=>(by repeat (first | exact AM (by unfold Mo;rw[Rd.some A,Rd.some B,Rd.some L];exact Rd.none R) | apply AF | apply PanQ.block | apply PanQ.loop):PanQ _ _) _) rfl rfl ZbC ZbA ZbH Zby ZbE trivial rfl ?_;rintro _ _ ⟨d,V,S,i,rfl,rfl⟩;refine Kr ?_;have j:=GB T V i;refine Go ?_;refine Bc [0] [] [] (j) (BX rfl) (λR=>(by repeat (first | exact AM (by unfold Mo;rw[Rd.some A,Rd.some B,Rd.some L,Rd.some S];exact Rd.none R) | apply AF | apply PanQ.block | apply PanQ.loop):PanQ _ _) _) rfl rfl ZbC ZbA ZbH Zby ZbE trivial rfl ?_;rintro _ _ ⟨r,X,C,f,rfl,rfl⟩;refine Kr ?_;have xa:=P T X f;refine Go ?_;refine Bc [0] [] [] (xa) (BX rfl) (λR=>(by repeat (first | exact AM (by unfold Mo;rw[Rd.some A,Rd.some B,Rd.some L,Rd.some S,Rd.some C];exact Rd.none R) | apply AF | apply PanQ.block | apply PanQ.loop):PanQ _ _) _) rfl rfl ZbC ZbA ZbH Zby ZbE trivial rfl ?_;rintro _ _ ⟨o,Y,E,k,rfl,rfl⟩;refine Kr ?_;have xb:=U T Y k;refine Go ?_;refine Bc [0] [] [] (xb) (BX rfl) (λR=>(by repeat (first | exact AM (by unfold Mo;rw[Rd.some A,Rd.some B,Rd.some L,Rd.some S,Rd.some C,Rd.some E];exact Rd.none R) | apply AF | apply PanQ.block | apply PanQ.loop):PanQ _ _) _) rfl rfl ZbC ZbA ZbH Zby ZbE trivial rfl ?_;rintro _ _ ⟨m,Z,g,q,rfl,rfl⟩;refine Kr ?_;have xc:=(Aba GB) T Z q;refine Zgw ?_;refine Bc [0] [] [] (xc) (BX rfl) (λR=>(by repeat (first | exact AM (by unfold Mo;rw[Rd.some A,Rd.some B,Rd.some L,Rd.some S,Rd.some C,Rd.some E,Rd.some g];exact Rd.none R) | apply AF | apply PanQ.block | apply PanQ.loop):PanQ _ _) _) rfl rfl ZbC ZbA ZbH Zby ZbE trivial rfl ?_;rintro _ _ ⟨s,e,y,t,rfl,rfl⟩;refine Kr ?_;have xd:=w T e t;refine Go ?_;refine Bc [0] [] [] (xd) (BX rfl) (λR=>(by repeat (first | exact AM (by unfold Mo;rw[Rd.some A,Rd.some B,Rd.some L,Rd.some S,Rd.some C,Rd.some E,Rd.some g,Rd.some y];exact Rd.none R) | apply AF | apply PanQ.block | apply PanQ.loop):PanQ _ _) _) rfl rfl ZbC ZbA ZbH Zby ZbE trivial rfl ?_;rintro _ _ ⟨b,h,Q,u,rfl,rfl⟩;refine Kr ?_;refine Zfv ?_;exact⟨⟨kind,p,n,d,r,o,m,s,b⟩,h,by unfold Mo;rw[Rd.some A,Rd.some B,Rd.some L,Rd.some S,Rd.some C,Rd.some E,Rd.some g,Rd.some y,Rd.some Q];rfl,u,rfl,rfl⟩
theorem A3l{r:Nat->List RQ}{v:List RQ}(h:n<8):SetAt (Ro ⟨vh,uV,r⟩) (0+9+n*1) [GY v] (Ro ⟨vh,uV,ZH r n v⟩):=by
 rcases lt8 h with rfl | rfl | rfl | rfl | rfl | rfl | rfl | rfl<;>exact⟨YbA rfl,rfl⟩
theorem A4a:AllLe [ex (.int .i64 (vh 0)),ex (.int .i64 (vh 1)),ex (.int .i64 (vh 2)),ex (.int .i64 (vh 3)),ex (.int .i64 (vh 4)),ex (.int .i64 (vh 5)),ex (.int .i64 (vh 6)),ex (.int .i64 (vh 7)),GY uV,ex (.slice none 0 0),ex (.slice none 0 0),ex (.slice none 0 0),ex (.slice none 0 0),ex (.slice none 0 0),ex (.slice none 0 0),ex (.slice none 0 0),ex (.slice none 0 0)] (Ro ⟨vh,uV,λi=>([]:List (List RQ)).getD i default⟩):=
 ⟨D.le.refl _,D.le.refl _,D.le.refl _,D.le.refl _,D.le.refl _,D.le.refl _,D.le.refl _,D.le.refl _,D.le.refl _,AL,AL,AL,AL,AL,AL,AL,AL,trivial⟩
theorem Vf(V:Rdr 269 (λL:List RQ=>GY L) (QR G0)):Rdr 190 (λr:Rsl=>AP (Ro r)) (Vc G0):=Rdr.intro λT l J=>by
 have I:=RE T l J;refine Bu func190 rfl (Ag func190 ZbI ZbI) rfl λv G=>?_;rw[ntmps190];refine Zfw ?_;rintro _ _ ⟨Y,E,p,Z,rfl,rfl⟩;refine Kr ?_;have N:=V T E Z;refine Go ?_;refine Bc [0] [] [] (N) (BX rfl) (λR=>(by repeat (first | exact AM (by unfold Vc;rw[Rd.some p];exact Rd.none R) | apply AF | apply PanQ.block | apply PanQ.loop):PanQ _ _) _) rfl rfl ZbC ZbA ZbH Zby ZbE trivial rfl ?_;rintro _ _ ⟨u,O,c,S,rfl,rfl⟩;refine ZfO ?_;refine AC (λB d=>∃k h a,k<=8/\B=8-k/\h.length=k/\Byt a/\(Co (QR G0) 8 O=(Co (QR G0) (8-k) a).map λy=>(h++y.1,y.2))/\d=⟨[(0,.ptr 0 0),(2,.ptr 2 0),(3,.ptr 3 0),(11,.d (ex (.int .i64 (k:Nat))))],[.var 92 [.d (GX T a)],.pin [(G,.own 0)],.var 41 ([ex (.int .i64 0),ex (.int .i64 0),ex (.int .i64 0),ex (.int .i64 0),ex (.int .i64 0),ex (.int .i64 0),ex (.int .i64 0),ex (.int .i64 0),ex (.slice none 0 0),ex (.slice none 0 0),ex (.slice none 0 0),ex (.slice none 0 0),ex (.slice none 0 0),ex (.slice none 0 0),ex (.slice none 0 0),ex (.slice none 0 0),ex (.slice none 0 0)].map .d),.var 41 ((Ro ⟨Y,u,λi=>h.getD i default⟩).map .d)]⟩) ?le ⟨0,[],O,Yaw _,rfl,rfl,S,by cases Co (QR G0) 8 O<;>rfl,rfl⟩ ?round
 case le=>exact Ac Zde (by exact HpLe.cons (Ad rfl)<|HpLe.cons (Ak rfl)<|HpLe.cons (Ad rfl)<|HpLe.cons (Hp A4a)<|HpLe.nil)
 case round=>
  rintro B _ ⟨k,h,a,C,rfl,M,K,X,rfl⟩
  have F:∀{r},Co (QR G0) 8 O=r->Vc G0 l=(match r with | none=>none | some (W,H)=>some (⟨Y,u,λi=>W.getD i default⟩,H)):=λ{r} X=>by
   unfold Vc;rw[Rd.some p,Rd.some c];unfold KR Rd.bind;rw[X];cases r<;>rfl
  by_cases Q:k<8
  .have I:=V T a K
   refine Go ?_;refine Bc [0] [] [] (I) (BX rfl) (λR=>(by repeat (first | exact AM (F (DW Q X R)) | apply AF | apply PanQ.block | apply PanQ.loop):PanQ _ _) _) rfl rfl ZbC ZbA ZbH Zby ZbE trivial rfl ?_;rintro _ _ ⟨x,H,A,z,rfl,rfl⟩;refine ZfO ?_;refine LA (ao rfl) (ao rfl) rfl (Aa rfl) (by first | exact CX) (A3l Q) rfl ?_;refine Go ?_;refine Ah (8-(k+1)) ZbD ⟨k+1,h++[x],H,by omega,rfl,by simp[M],z,DV Q X A,rfl⟩ ?_;exact Ac Zde Zdf
  .obtain rfl:k=8:=by omega
   refine Zfv ?_;exact⟨_,a,by rw[F X];simp[Co,Cq],K,rfl,rfl⟩
