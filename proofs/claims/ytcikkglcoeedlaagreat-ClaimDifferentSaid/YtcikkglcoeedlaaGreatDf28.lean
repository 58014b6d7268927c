/- Part 28. No condition. -/
import Derived.Test.YtcikkglcoeedlaaGreatDf18
import Derived.Test.YtcikkglcoeedlaaGreatDf19
import Derived.Test.YtcikkglcoeedlaaGreatDf20
import Derived.Test.YtcikkglcoeedlaaGreatDf21
import Derived.Test.YtcikkglcoeedlaaGreatDf22
import Derived.Test.YtcikkglcoeedlaaGreatDf24
import Derived.Test.YtcikkglcoeedlaaGreatDf25
import Derived.Test.YtcikkglcoeedlaaGreatDf27
set_option linter.unusedSimpArgs false
set_option linter.unusedVariables false
set_option maxRecDepth 100000
set_option maxHeartbeats 4000000
namespace Go.Proofs.YtcikkglcoeedlaaGreat
open _root_.Go.Proofs.Tryz
variable{vs:Array TypeId}{o:Bool}{r vx up:D}{a j uA uI:Int}{vL:List (List Tm)}{vb uf:List Tm}{n:Nat}{x y vS:Operand}{e:Type}{t:TypeId}{z u:Value}
section
open Go.RowKit
def A50(l:List Int)(j:Nat):Int:=l.getD j 0
def CS(z:Nat):List (Nat->Int):=
 if z%8=0 then[]else if z%8=1 then[BW 255]else if z%8=2\/z%8=3 then revRows else if z%8=4 then[A50 [2,3,1,1,1,1,1,1]]else if z%8=5 then[A50 [1,1,0,0,0,0,0,0],A50 [1,0,2,1,1,1,1,1]]else BW (z/8%16)::revRows
theorem A91(h:n<256):IntKind.u8.wrap (n:Int)=n:=by
 exact Zgf
theorem AaR(z:Nat)(u:z<256):IntKind.u8.wrap (((z:Nat):Int).tdiv 8)=((z/8:Nat):Int):=by
 rw[show((z:Nat):Int).tdiv 8=((z/8:Nat):Int)by rw[YbU ZbG];omega];exact A91 ZbG
theorem Pq(z:Nat)(u:z<256):Abs prog 63 [ex (.int .u8 (z:Nat))] (Du (CS z)):=by
 have B:=Ps (z/8%16) ZbG;refine Ab func63 λw=>?_;rw[ntmps63];by_cases d:z%8=0
 .have H:=A6q;refine Go ?_
  exact AA (Am (ResV.tmp rfl rfl) (Ae (by simp[CS,d])))
 by_cases q:z%8=1
 .have P:=Zh;refine Go ?_
  exact AA (Am (ResV.tmp rfl rfl) (Ae (by simp[CS,q])))
 by_cases A:z%8=2
 .have r:=NS;refine Go ?_
  exact AA (Am (ResV.tmp rfl rfl) (Ae (by simp[CS,A])))
 by_cases K:z%8=3
 .refine Y1<|Wa<|Y0<|Ah<|Y1<|Wm ?_;refine Wq A6u ?_;refine Y0<|AWp.block<|Y1 ?_;refine Wq AO ?_;refine Wa<|Y0<|Cf<|Y1 ?_;refine Wq AO ?_;refine Wa<|Y0<|Cf<|Ah<|Y1 ?_;refine Wq AO ?_;refine Wa<|Y0<|Cf<|AWp.region ?_;refine Wq Bc ?_;refine Wa<|Y0<|Ct<|Y1 ?_;refine Wq (AJ (NS)) ?_;refine Wa<|Y0<|BV<|DW<|Dr ?_
  exact AA (Am (ResV.tmp rfl rfl) (Ae (by simp[CS,K])))
 by_cases Y:z%8=4
 .refine Go ?_
  exact AA (Am (ResV.tmp rfl rfl) (Ae (by simp only[CS,Y];rfl)))
 by_cases n:z%8=5
 .refine Go ?_
  exact AA (Am (ResV.tmp rfl rfl) (Ae (by simp only[CS,n];rfl)))
 refine Go ?_;refine Wq (GU (ao rfl) (ao rfl) ZbL (AaR z u)) ?_;refine Go ?_;exact AA (Am (ResV.tmp rfl rfl) (Ae (by simp[CS,d,q,A,K,Y,n])))
theorem DF(a:Int){j:Nat}(W:j<=7):IntKind.i64.wrap (((BitVec.ofInt 64 a &&& BitVec.ofInt 64 ((2^j-1:Nat):Int)).toNat:Nat):Int)=a%((2^j:Nat):Int):=by
 have q:(BitVec.ofInt 64 ((2^j-1:Nat):Int)).toNat=2^j-1:=by
  rcases(show j=0\/j=1\/j=2\/j=3\/j=4\/j=5\/j=6\/j=7 by omega)with rfl | rfl | rfl | rfl | rfl | rfl | rfl | rfl<;>rfl
 rw[BitVec.toNat_and,q,BitVec.toNat_ofInt,YdL]
 have A:∀x:Nat,x<128->IntKind.i64.wrap (x:Int)=x:=λx C=>by
  exact Zgf
 rcases(show j=0\/j=1\/j=2\/j=3\/j=4\/j=5\/j=6\/j=7 by omega)with rfl | rfl | rfl | rfl | rfl | rfl | rfl | rfl<;>(rw[A _ ZbG];omega)
section
variable {P:Program} {hp:List Ow} {arg:Operand->AV} {dd:Option Tmp} {ty:TypeId} {ps:String} {af:Array Edge} {gd:Option (Nat×Bool)} {T U:TypeId} {x y:Operand} {a b r:Int} {k:IntKind}
theorem Eq(C:arg x=.d (ex (.int k a)))(N:arg y=.d (ex (.int k b)))(V:k.wrap ((BitVec.ofInt k.bits a &&& BitVec.ofInt k.bits b).toNat)=r):Quiet P hp ⟨dd,.binOp .and T x y U,ty,ps,af,gd⟩ arg (.d (ex (.int k r))):=
 CM rfl C N λw=>by
  simp only[eqGuard,binOp,Op.intBits,V];simp[V]
theorem Ez(j:Nat)(C:arg x=.d (ex (.int .i64 a)))(N:arg y=.d (ex (.int .i64 ((2^j-1:Nat):Int))))(W:j<=7):Quiet P hp ⟨dd,.binOp .and T x y U,ty,ps,af,gd⟩ arg (.d (ex (.int .i64 (a%((2^j:Nat):Int))))):=
 Eq C N (DF a W)
end
theorem Kh(n d:Int)(q:-128<=n)(A:n<=127)(K:0<d)(Y:d<=127):Abs prog 113 [AQ [ex (.int .i8 n),ex (.int .i8 d),ex (.int .u8 0)]] (AQ (DB (Rat.divInt n d))):=by
 have Z:(Aw n.natAbs).length<=1:=by simpa using(Jw (x:=n) ZbG ZbG).1
 have a:(Aw d.natAbs).length<=1:=by simpa using(Jw (x:=d) ZbG ZbG).1
 have B:=Kq n ZbG ZbG;have T:=Kq d ZbG ZbG;have N:=Kq 4611686018427387904 ZbL ZbL;have C:=NP n d ZbG ZbG ZbG;refine Ab func113 λw=>?_;rw[ntmps113];refine Go ?_;refine Dy 10 ?_;exact Zjp
theorem Wk(d:-128<=a)(q:a<=127):IntKind.i8.wrap a=a:=by
 exact Zgf
theorem A0j{c:e->List D}{x d:Nat->e}:GK (ZS (λi=>c (if i<n then x i else d i)) n (c (x n)))=GK λi=>c (if i<n+1 then x i else d i):=by
 congr 1;funext i;unfold ZS;by_cases h:i=n
 .subst h
  simp
 .by_cases V:i<n
  .simp [h,V,show i<n+1 by omega]
  .simp [h,V,show¬i<n+1 by omega]
theorem NH{n d:Int}(q:-128<=n)(A:n<=127)(K:0<d)(Y:d<=127):RSz (Rat.divInt n d) 2:=by
 rw[Ydf,Rat.div_def]
 exact RSz.mul (Jw (x := n) ZbG ZbG : RSz ((n : Int) : Rat) 1) (A8e (Jw (x := d) ZbG ZbG : RSz ((d : Int) : Rat) 1) (by
  show(d:Rat).num≠0;rw[YeH];omega))
abbrev zI:RQ×RQ:=(LK ((0:Int):Rat),LK ((0:Int):Rat))
def loB(V:List Int)(k i:Nat):Rat:=Rat.divInt (AR V (k+i)) 3
def wiB(V:List Int)(k:Nat):Rat:=Rat.divInt (AR V k%8) 2
def ivB(V:List Int)(k i:Nat):RQ×RQ:=(LK (loB V k i),LK (loB V k i+wiB V k))
def Eh(V:List Int)(k:Nat)(i:Nat):RQ×RQ:=if i<2 then ivB V k i else zI
theorem Lr(T:Nat)(V:List Int)(d:I8 V)(I:V.length<=9223372036854775807)(m:Nat)(x:m<=1000):Abs prog 64 [Ov T V,ex (.int .i64 (m:Nat))] (AQ (Dv (Eh V m))):=by
 have C:=EW 0 ZbL ZbL;have u:=Cj d m;have b:=CH T V d m ZbG I;have E:=Kh (AR V m%8) 2 ZbG ZbG ZbG ZbG;refine Ab func64 λw=>?_;rw[ntmps64];refine Go ?_;refine AF (λv c=>∃k,k<=8/\v=8-k/\c=⟨[(0,.d (Ov T V)),(1,.d (ex (.int .i64 (m:Nat)))),(4,.ptr 0 0),(5,.ptr 1 0),(6,.d (ex (.int .i64 (k:Nat))))],[.var 131 ((Dv λ_=>default).map .d),.var 131 ((GK λi=>Jk (if i<k then zI else default)).map .d)]⟩) ?le ⟨0,by omega,rfl,rfl⟩ ?round
 case le=>exact Ac ZdF (by exact HpLe.cons (Hv Rg)<|HpLe.cons (Hv Rg)<|HpLe.nil)
 case round=>
  rintro v _ ⟨k,B,rfl,rfl⟩;by_cases O:k<8
  .refine Go ?_;refine Mm (ao rfl) (ao rfl) rfl (Aa rfl) rfl (Hr (λ_=>rfl) rfl O) rfl ?_;refine Go ?_
   refine Ai (8-(k+1)) ZbG ⟨k+1,by omega,rfl,rfl⟩ ?_;exact Ac ZdF (by apply Yv;refine HpLe.cons (OwLe.varD (A0j (c:=Jk) (x:=λ_=>zI) (d:=λ_=>default))) ?_;exact HpLe.nil)
  .obtain rfl:k=8:=by omega
   refine Go ?_;refine AF (λv c=>∃k,k<=2/\v=2-k/\c=⟨[(0,.d (Ov T V)),(1,.d (ex (.int .i64 (m:Nat)))),(4,.ptr 0 0),(5,.ptr 1 0),(7,.d (ex (.int .i64 (k:Nat))))],[.var 131 ((Dv λ_=>default).map .d),.var 131 ((GK λi=>Jk (if i<k then ivB V m i else zI)).map .d)]⟩) ?le2 ⟨0,by omega,rfl,rfl⟩ ?round2
   case le2=>exact Ac ZdF ZcA
   case round2=>
    rintro v _ ⟨k,B,rfl,rfl⟩;by_cases O:k<2
    .have q:=Cj d (m+k)
     have A:=CH T V d (m+k) ZbG I;have e:=Kh (AR V (m+k)) 3 ZbG ZbG ZbG ZbG;have F:=OU (loB V m k) (wiB V m) 2 2 (NH ZbG ZbG ZbG ZbG) (NH ZbG ZbG ZbG ZbG) ZbG;refine Ah<|Y1<|Wm ?_;refine Wq Bc ?_;refine Y0<|Ct<|Ys<|Ah<|AWp.block<|Y1<|Wm<|Wm<|Wm ?_;refine Wq WF ?_;refine Wq (AJ (A)) ?_;refine Wq (AP (ao rfl) (Aa rfl) (Aa rfl) (Wk ZbG ZbG)) ?_;(refine Df rfl rfl ?_;(refine AI (Aa rfl) rfl rfl rfl ?_;(repeat ((first | refine⟨_,Az (ao rfl),?_⟩ | refine⟨_,Po rfl,?_⟩);refine⟨_,rfl,?_⟩));refine⟨_,rfl,?_⟩));refine Wq (AJ (e)) ?_;refine Al ?_;refine Sf ?_;apply Y0
     refine Dy 13 ?_;refine Dw ?_;refine Xq (Ez 3 rfl rfl ZbG) ?_;refine⟨_,HStep.q rfl (AP (ah rfl) (Aa rfl) (Aa rfl) (Wk (a:=AR V m%8) ZbG ZbG)),?_⟩;refine Dw ?_;refine Mm (ao rfl) (ao rfl) rfl (Aa rfl) rfl (Hr (i:=k) (v:=Jk (ivB V m k)) (λ_=>rfl) rfl ZbG) rfl ?_;refine ZgM ?_;exact Ac ZdF (by apply Yv;refine HpLe.cons (OwLe.varD (A0j (c:=Jk) (x:=ivB V m) (d:=λ_=>zI))) ?_;exact HpLe.nil)
    .obtain rfl:k=2:=by omega
     exact ZfC
def Kn(j kind n r m:Int):Int:=if j=5 then(if kind=6 then n else 0)else if j=8\/j=6 then(if kind=6 then r else if kind=7\/kind=8 then m else if kind=13 then n else 0)else 0
def Ko(j kind n r m:Int):Int:=if j=5 then(if kind=6\/kind=12 then n else -1)else if j=8\/j=6 then(if kind=6 then r else if kind=7\/kind=8 then m else if kind=9 then 0 else if kind=12 then n else -1)else -1
theorem A1B(j:Int)(q:D)(t:List (Nat->Int))(c:Clm)(E:c.b.length<=1000000) :
  Abs prog 25 [AQ [ex (.int .i64 j),q,Du t],AQ (ED c)] (Gb [ex (.int .i64 (Kn j c.kind c.n c.r (c.b.length:Nat))),ex (.int .i64 (Ko j c.kind c.n c.r (c.b.length:Nat)))]):=by
 obtain⟨kind,p,n,d,r,o,l,s,b⟩:=c;refine Ab func25 λw=>?_;rw[ntmps25];refine Go ?_;refine CL 0 2 rfl rfl rfl ?_;refine CL 1 3 rfl rfl rfl ?_;refine Go ?_;by_cases u:j=5
 .subst u
  by_cases g:kind=6
  .exact Zbo
  by_cases e:kind=12
  .exact Zbp
  exact Zht
 by_cases A:j=8
 .subst A
  exact Zbq
 by_cases x:j=6
 .subst x
  exact Zbq
 exact Zht
theorem A0x (a b c d : Int) (w : World) : (do eqGuard .eql 225 x y (.agg #[.int .i64 a, .int .i64 b]) (.agg #[.int .i64 c, .int .i64 d]); binOp .eql 225 (.agg #[.int .i64 a, .int .i64 b]) (.agg #[.int .i64 c, .int .i64 d]) : Sem Value).run prog w = .ok (.bool (a == c && b == d)) w := by
 rw [Sem.run_bind,run_eqGuard_agg (hm:=by kernel_rfl),Result.andThen_ok,run_eql_struct,run_equalIn_struct (ht:=by kernel_rfl) (hp:=by kernel_rfl)];have p : (Tryz.prog.fieldsOf 225).toList = [⟨"lo", 3, 0, false, "", "eliminant/claim", 0⟩, ⟨"hi", 3, 1, false, "", "eliminant/claim", 8⟩] := by kernel_rfl
 rw[p];simp[Op.eqFields,go_sem];by_cases q:a=c<;>by_cases A:b=d<;>simp[q,A]
theorem A7v (a b c d e f : Int) (w : World) : (do eqGuard .neq 222 x y (.agg #[.int .i64 a, .int .i64 b, .int .i64 c]) (.agg #[.int .i64 d, .int .i64 e, .int .i64 f]); binOp .neq 222 (.agg #[.int .i64 a, .int .i64 b, .int .i64 c]) (.agg #[.int .i64 d, .int .i64 e, .int .i64 f]) : Sem Value).run prog w = .ok (.bool (!(a == d && b == e && c == f))) w := by
 obtain⟨i,J⟩:∃i,Tryz.prog.info? 3=some i:=YcS.1 ZbK;have q:=λW=>run_equalIn_array (P:=prog) W 9999 (t:=222) (e:=3) (n:=3) #[.int .i64 a,.int .i64 b,.int .i64 c] #[.int .i64 d,.int .i64 e,.int .i64 f] ZbK J;rw[Sem.run_bind,run_eqGuard_agg (hm:=by kernel_rfl),Result.andThen_ok,run_neq_struct,q];have V:(List.range 3)=[0,1,2]:=rfl;have F:Tryz.prog.cellsOf 3=1:=by kernel_rfl
 rw[V,F];simp[Op.eqItems,go_sem];by_cases q:a=d<;>by_cases A:b=e<;>by_cases K:c=f<;>simp[q,A,K]
abbrev in3(a b c:Int):List D:=[ex (.int .i64 a),ex (.int .i64 b),ex (.int .i64 c)]
abbrev in2(a b:Int):List D:=[ex (.int .i64 a),ex (.int .i64 b)]
section
variable {hp:List Ow} {arg:Operand->AV} {dd:Option Tmp} {ty:TypeId} {ps:String} {af:Array Edge} {gd:Option (Nat×Bool)}
theorem A3Y(C:arg x=.d (AQ (in2 a j)))(N:arg y=.d (AQ (in2 uA uI))):Quiet prog hp ⟨dd,.binOp .eql 225 x y t,ty,ps,af,gd⟩ arg (.d (ex (.bool (a==uA&&j==uI)))):=
 Hs rfl C N (λ_ _ h=>YW (l:=[.int .i64 a,.int .i64 j]) h) (λ_ _ h=>YW (l:=[.int .i64 uA,.int .i64 uI]) h) λw=>A0x a j uA uI w
theorem Aaa{a b c d e f:Int}(C:arg x=.d (AQ (in3 a b c)))(N:arg y=.d (AQ (in3 d e f))):Quiet prog hp ⟨dd,.binOp .neq 222 x y t,ty,ps,af,gd⟩ arg (.d (ex (.bool (!(a==d&&b==e&&c==f))))):=
 Hs rfl C N (λ_ _ h=>YW (l:=[.int .i64 a,.int .i64 b,.int .i64 c]) h) (λ_ _ h=>YW (l:=[.int .i64 d,.int .i64 e,.int .i64 f]) h) λw=>A7v a b c d e f w
end
theorem UL(a b c d:Int):Abs prog 145 [AQ (in2 a b),AQ (in2 c d)] (ex (.bool (decide (b<c)||decide (d<a)))):=by
 refine Ab func145 λw=>?_;rw[ntmps145];apply Y1;refine Bx ?_;refine Bx ?_;refine Wa<|Y0 ?_;refine CL 0 2 rfl rfl rfl ?_;refine CL 1 3 rfl rfl rfl ?_;apply Y1;refine Wq AG ?_;refine Wq AT ?_;refine Wq AG ?_;refine Wq AT ?_;refine Wq Ci ?_;refine Wm ?_;refine Wv0 (λR=>AG) ?_;refine Wv1 11 rfl (λR=>AT) ?_;refine Wv0 (λR=>AG) ?_;refine Wv1 13 rfl (λR=>AT) ?_;refine Wv2 12 rfl 14 rfl (λR=>Ci) ?_;refine Wq NT ?_;refine Wa<|Y0<|BV ?_
 exact Yf
def MQ(s:List Int)(v:Int):Nat:=s.countP λx=>x==v
theorem Pd{s:List Int}(h:n<s.length)(v:Int):MQ (s.take (n+1)) v=MQ (s.take n) v+(if s.getD n default=v then 1 else 0):=by
 unfold MQ;rw[YcT,List.countP_append,Yab,Yac h];simp[List.countP_cons]
theorem A7W(s:List Int)(v:Int):MQ s v<=s.length:=List.countP_le_length
def Tw(I kind n d:Int):Int×Int:=if kind=6 then(n,n)else if kind=5 then(if 0<d then(I,I)else if d=0 then(n,n)else(0,0))else if kind=12 then(0,n)else if kind=7\/kind=8 then(0,I-1)else(0,I)
def ZJ(I kind n r m:Int):Int×Int:=if kind=6 then(r,r)else if kind=7\/kind=8 then(m,m)else if kind=9 then(0,0)else if kind=13 then(n,I)else(0,I)
theorem SN(c:Clm)(E:c.b.length<=1000000):Abs prog 143 [AQ (ED c)] (AQ (in2 (Tw 1073741824 c.kind c.n c.d).1 (Tw 1073741824 c.kind c.n c.d).2)):=by
 obtain⟨kind,p,n,d,r,o,l,s,b⟩:=c;rw[show ED ⟨kind,p,n,d,r,o,l,s,b⟩=[ex (.int .i64 kind),Kc p,ex (.int .i64 n),ex (.int .i64 d),ex (.int .i64 r),Du o,Ic l,Nw s,FX b]from rfl];refine Ab func143 λw=>?_;rw[ntmps143];refine Go ?_;refine CL 0 1 rfl rfl rfl ?_;refine Go ?_;by_cases g:kind=6
 .subst g
  exact ZfR
 by_cases Q:kind=5
 .subst Q
  by_cases T:0<d
  .exact Zbr
  by_cases I:d=0
  .exact Zbr
  exact ZfR
 by_cases e:kind=12
 .subst e
  exact ZfR
 by_cases v:kind=7
 .subst v
  exact ZfR
 by_cases f:kind=8
 .subst f
  exact ZfR
 exact ZfR
theorem RI(c:Clm)(E:c.b.length<=1000000):Abs prog 144 [AQ (ED c)] (AQ (in2 (ZJ 1073741824 c.kind c.n c.r (c.b.length:Nat)).1 (ZJ 1073741824 c.kind c.n c.r (c.b.length:Nat)).2)):=by
 obtain⟨kind,p,n,d,r,o,l,s,b⟩:=c;rw[show ED ⟨kind,p,n,d,r,o,l,s,b⟩=[ex (.int .i64 kind),Kc p,ex (.int .i64 n),ex (.int .i64 d),ex (.int .i64 r),Du o,Ic l,Nw s,FX b]from rfl];refine Ab func144 λw=>?_;rw[ntmps144];refine Go ?_;refine CL 0 1 rfl rfl rfl ?_;refine Go ?_;by_cases g:kind=6
 .subst g
  exact ZfS
 by_cases v:kind=7
 .subst v
  exact ZfS
 by_cases f:kind=8
 .subst f
  exact ZfS
 by_cases F:kind=9
 .subst F
  exact ZfS
 by_cases G:kind=13
 .subst G
  exact ZfS
 exact ZfS
abbrev cn3(s:List Int):List D:=in3 (MQ s (-1):Nat) (MQ s 0:Nat) (MQ s 1:Nat)
theorem Ll(s:List Int)(hs:s.length<=1000000):Abs prog 142 [Nw s] (AQ (cn3 s)):=by
 refine Ab func142 λs0=>?_
 rw [ntmps142]
 refine Go ?_
 refine AF (λmz σ=>∃k,k<=s.length/\mz=s.length-k/\σ=⟨[(2,.ptr 0 0),(3,.ptr 1 0),(6,.d (Nw s)),(7,.d (ex (.int .i64 (s.length:Nat)))),(8,.d (ex (.int .i64 (k:Nat))))],[.var 222 ((in3 0 0 0).map .d),.var 222 ((cn3 (s.take k)).map .d)]⟩) ?le ⟨0,by omega,rfl,rfl⟩ ?round
 case le=>exact Ac (by exact Yp<|Yp<|Yd<|Yd<|Yd<|FrLe.nil) (by refine HpLe.cons (OwLe.cells (by repeat (first | exact CellsLe.nil | refine CellsLe.cons (AVle.d rfl) ?_ | refine CellsLe.cons (AVle.le AM) ?_))) ?_;refine HpLe.cons (OwLe.cells (by repeat (first | exact CellsLe.nil | refine CellsLe.cons (AVle.d rfl) ?_ | refine CellsLe.cons (AVle.le AM) ?_))) ?_;exact HpLe.nil)
 case round=>
  rintro mz _ ⟨k,hk,rfl,rfl⟩
  by_cases hlt:k<s.length
  .have hv:∀v:Int, MQ (s.take k) v<=k:=λv=>Yat (A7W _ v) (by rw [YaO]; omega)
   have h1:=Pd hlt (-1)
   have h2:=Pd hlt 0
   have h3:=Pd hlt 1
   have hv1:=hv (-1)
   have hv2:=hv 0
   have hv3:=hv 1
   by_cases g1:s.getD k default = -1
   .rw [g1] at h1 h2 h3
    simp at h1 h2 h3
    refine Go ?_
    rw [g1]
    refine Go ?_
    refine Ai (s.length-(k+1)) (by omega) ⟨k+1,by omega,rfl,rfl⟩ ?_
    exact Ac (by exact Yp<|Yp<|Yd<|Yd<|Yd<|FrLe.nil) (by refine HpLe.cons (OwLe.cells (CellsLe.cons (AVle.int (by omega)) (CellsLe.cons (AVle.int (by omega)) (CellsLe.cons (AVle.int (by omega)) CellsLe.nil)))) ?_;refine HpLe.cons (OwLe.cells (CellsLe.cons (AVle.int (by omega)) (CellsLe.cons (AVle.int (by omega)) (CellsLe.cons (AVle.int (by omega)) CellsLe.nil)))) ?_;exact HpLe.nil)
   by_cases g2:s.getD k default=0
   .rw [g2] at h1 h2 h3
    simp at h1 h2 h3
    refine Go ?_
    rw [g2]
    refine Go ?_
    refine Ai (s.length-(k+1)) (by omega) ⟨k+1,by omega,rfl,rfl⟩ ?_
    exact Ac (by exact Yp<|Yp<|Yd<|Yd<|Yd<|FrLe.nil) (by refine HpLe.cons (OwLe.cells (CellsLe.cons (AVle.int (by omega)) (CellsLe.cons (AVle.int (by omega)) (CellsLe.cons (AVle.int (by omega)) CellsLe.nil)))) ?_;refine HpLe.cons (OwLe.cells (CellsLe.cons (AVle.int (by omega)) (CellsLe.cons (AVle.int (by omega)) (CellsLe.cons (AVle.int (by omega)) CellsLe.nil)))) ?_;exact HpLe.nil)
   by_cases g3:s.getD k default=1
   .rw [g3] at h1 h2 h3
    simp at h1 h2 h3
    refine Go ?_
    rw [g3]
    refine Go ?_
    refine Ai (s.length-(k+1)) (by omega) ⟨k+1,by omega,rfl,rfl⟩ ?_
    exact Ac (by exact Yp<|Yp<|Yd<|Yd<|Yd<|FrLe.nil) (by refine HpLe.cons (OwLe.cells (CellsLe.cons (AVle.int (by omega)) (CellsLe.cons (AVle.int (by omega)) (CellsLe.cons (AVle.int (by omega)) CellsLe.nil)))) ?_;refine HpLe.cons (OwLe.cells (CellsLe.cons (AVle.int (by omega)) (CellsLe.cons (AVle.int (by omega)) (CellsLe.cons (AVle.int (by omega)) CellsLe.nil)))) ?_;exact HpLe.nil)
   rw [Yai g1] at h1
   rw [Yai g2] at h2
   rw [Yai g3] at h3
   by_cases g4:s.getD k default < -1
   .refine Go ?_
    refine Ai (s.length-(k+1)) (by omega) ⟨k+1,by omega,rfl,rfl⟩ ?_
    exact Ac (by exact Yp<|Yp<|Yd<|Yd<|Yd<|FrLe.nil) (by refine HpLe.cons (OwLe.cells (CellsLe.cons (AVle.int (by omega)) (CellsLe.cons (AVle.int (by omega)) (CellsLe.cons (AVle.int (by omega)) CellsLe.nil)))) ?_;refine HpLe.cons (OwLe.cells (CellsLe.cons (AVle.int (by omega)) (CellsLe.cons (AVle.int (by omega)) (CellsLe.cons (AVle.int (by omega)) CellsLe.nil)))) ?_;exact HpLe.nil)
   have g5:1<s.getD k default:=by omega
   refine Go ?_
   refine Ai (s.length-(k+1)) (by omega) ⟨k+1,by omega,rfl,rfl⟩ ?_
   exact Ac (by exact Yp<|Yp<|Yd<|Yd<|Yd<|FrLe.nil) (by refine HpLe.cons (OwLe.cells (CellsLe.cons (AVle.int (by omega)) (CellsLe.cons (AVle.int (by omega)) (CellsLe.cons (AVle.int (by omega)) CellsLe.nil)))) ?_;refine HpLe.cons (OwLe.cells (CellsLe.cons (AVle.int (by omega)) (CellsLe.cons (AVle.int (by omega)) (CellsLe.cons (AVle.int (by omega)) CellsLe.nil)))) ?_;exact HpLe.nil)
  .obtain rfl:k=s.length:=by omega
   refine Go ?_
   exact AA (Am (ResV.cell rfl rfl (Aa rfl) rfl rfl rfl) (Ae (by rw [YaT])))
abbrev clC(kind:Int)(P:List Tm)(n d r:Int)(o:List (Nat->Int))(l:List (List RTm))(s:List Int)(b:List (Nat->RQ×RQ)):List D:=[ex (.int .i64 kind),BP P,ex (.int .i64 n),ex (.int .i64 d),ex (.int .i64 r),Du o,Ic l,Nw s,FX b]
theorem A0F(kind:Int)(P:List Tm)(n d r:Int)(o:List (Nat->Int))(l:List (List RTm))(s:List Int)(b:List (Nat->RQ×RQ)):ED ⟨kind,P.map DK,n,d,r,o,l,s,b⟩=clC kind P n d r o l s b:=by
 unfold clC;rw[Jd];rfl
def eq3(s j:List Int):Bool:=((MQ s (-1):Nat):Int)==((MQ j (-1):Nat):Int)&&((MQ s 0:Nat):Int)==((MQ j 0:Nat):Int)&&((MQ s 1:Nat):Int)==((MQ j 1:Nat):Int)
def Xs(q:Bool)(kind z n g d A r l:Int)(s j:List Int):Bool:=
 ((kind==1&&z==2)&&q)||((kind==5&&z==5)&&(d != A||n != g))||((kind==6&&z==6)&&(n != g||d != A||r != l))||((kind==8&&z==8)&&(q && !eq3 s j))||((kind==10&&z==8)&&(q&&decide ((0:Int)<((MQ j (-1):Nat):Int))))
def rgP(kind:Int)(u x v b:Int×Int):Bool:=
 ((decide (u.2<x.1)||decide (x.2<u.1))||(decide (v.2<b.1)||decide (b.2<v.1)))||decide (v.1>x.2)
theorem UE(kind X:Int)(P i:List Tm)(n g d N r J:Int)(o t:List (Nat->Int))(l L:List (List RTm))(s j:List Int)(b G:List (Nat->RQ×RQ))(M:PSz P 1000000000)(U:PSz i 1000000000)(h:P.length<=1000000)(m:i.length<=1000000)(Z:s.length<=1000000)(W:j.length<=1000000)(E:b.length<=1000000)(T:G.length<=1000000)(u x v I:Int×Int)(S:Tw 1073741824 kind n d=u)(xa:Tw 1073741824 X g N=x)(F:ZJ 1073741824 kind n r (b.length:Nat)=v)(V:ZJ 1073741824 X g J (G.length:Nat)=I) :
  Abs prog 71 [AQ (clC kind P n d r o l s b),AQ (clC X i g N J t L j G)] (ex (.bool (Xs (decide (CW P i=0)) kind X n g d N r J s j||rgP kind u x v I||(kind==2&&(x.1==0&&x.2==0))))):=by
 have f:=UU P i M U h m;have O:=Ll s Z;have xd:=Ll j W;have Q:=SN ⟨kind,P.map DK,n,d,r,o,l,s,b⟩ E;have xb:=SN ⟨X,i.map DK,g,N,J,t,L,j,G⟩ T;have cr:=RI ⟨kind,P.map DK,n,d,r,o,l,s,b⟩ E;have xc:=RI ⟨X,i.map DK,g,N,J,t,L,j,G⟩ T;rw[A0F]at Q xb cr xc;rw[show Tw 1073741824 (Clm.kind ⟨kind,P.map DK,n,d,r,o,l,s,b⟩) _ _=u from S]at Q;rw[show Tw 1073741824 (Clm.kind ⟨X,i.map DK,g,N,J,t,L,j,G⟩) _ _=x from xa]at xb;rw[show ZJ 1073741824 (Clm.kind ⟨kind,P.map DK,n,d,r,o,l,s,b⟩) _ _ _=v from F]at cr;rw[show ZJ 1073741824 (Clm.kind ⟨X,i.map DK,g,N,J,t,L,j,G⟩) _ _ _=I from V]at xc;have xf:=UL u.1 u.2 x.1 x.2;have xg:=UL v.1 v.2 I.1 I.2;clear S xa F V;refine Ab func71 λw=>?_;rw[ntmps71];apply Y1;refine Bx ?_;refine Bx ?_;refine Wa<|Y0 ?_;refine CL 0 2 rfl rfl rfl ?_;refine CL 1 3 rfl rfl rfl ?_;refine AWp.cutB 0 (λ_:Unit=>⟨[(2,.d (Fg 34 (clC kind P n d r o l s b))),(3,.d (Fg 34 (clC X i g N J t L j G))),(4,.d (ex (.bool false)))],[.dead,.dead]⟩) (λ_=>Xs (decide (CW P i=0)) kind X n g d N r J s j=false) ?_ ?_;refine AWp.block<|Y1 ?_;refine Wq AG ?_;refine Wq AT ?_;refine Wq Ci ?_;refine Wm ?_;refine EF (λR=>AG) ?_;refine CF 14 rfl (λR=>AT) ?_;refine CF 15 rfl (λR=>Ci) ?_;refine Wq CO ?_;refine Wa<|Y0 ?_
 .refine FI (ao rfl) (λC=>?_) (λC=>?_)
  .obtain ⟨A, B⟩:kind=1/\X=2:=by simpa using C
   refine Go ?_;refine FI (ao rfl) (λq=>?_) (λq=>?_)
   .exact Zbs
   .exact Zbt
  refine ZfJ ?_;refine CF 28 rfl (λR=>AT) ?_;refine CF 29 rfl (λR=>Ci) ?_;refine Go ?_;refine FI (ao rfl) (λy=>?_) (λy=>?_)
  .obtain ⟨A, B⟩:kind=5/\X=5:=by simpa using y
   refine Go ?_;refine Wv0 (λR=>AG) ?_;refine Wv1 38 rfl (λR=>AT) ?_;refine Wv0 (λR=>AG) ?_;refine Wv1 40 rfl (λR=>AT) ?_;refine Wv2 39 rfl 41 rfl (λR=>Ci) ?_;refine Go ?_;refine FI (ao rfl) (λq=>?_) (λq=>?_)
   .exact Zbs
   .exact Zbt
  refine ZfJ ?_;refine CF 49 rfl (λR=>AT) ?_;refine CF 50 rfl (λR=>Ci) ?_;refine Go ?_;refine FI (ao rfl) (λK=>?_) (λK=>?_)
  .obtain ⟨A, B⟩:kind=6/\X=6:=by simpa using K
   refine Go ?_;refine Wv0 (λR=>AG) ?_;refine Wv1 59 rfl (λR=>AT) ?_;refine Wv0 (λR=>AG) ?_;refine Wv1 61 rfl (λR=>AT) ?_;refine Wv2 60 rfl 62 rfl (λR=>Ci) ?_;refine Go ?_;refine Wv0 (λR=>AG) ?_;refine Wv1 66 rfl (λR=>AT) ?_;refine Wv0 (λR=>AG) ?_;refine Wv1 68 rfl (λR=>AT) ?_;refine Wv2 67 rfl 69 rfl (λR=>Ci) ?_;refine Go ?_;refine FI (ao rfl) (λq=>?_) (λq=>?_)
   .exact Zbs
   .exact Zbt
  refine ZfJ ?_;refine CF 77 rfl (λR=>AT) ?_;refine CF 78 rfl (λR=>Ci) ?_;refine Go ?_;refine FI (ao rfl) (λY=>?_) (λY=>?_)
  .obtain ⟨A, B⟩:kind=8/\X=8:=by simpa using Y
   by_cases qq:CW P i=0
   .rw [Yak qq]at f ⊢
    apply Ah;refine Dy 14 ?_;have H:=xd;refine Dw ?_;refine⟨_,Bb rfl rfl (Aaa rfl rfl),?_⟩;refine ZfU ?_;refine FI (ao rfl) (λq=>?_) (λq=>?_)
    .exact Zbs
    .exact Zbt
   .rw [Yad qq]at f ⊢
    apply Ah;refine Dy 14 ?_;refine ZfU ?_;exact ZiH
  refine ZfJ ?_;refine CF 100 rfl (λR=>AT) ?_;refine CF 101 rfl (λR=>Ci) ?_;refine Go ?_;refine FI (ao rfl) (λe=>?_) (λe=>?_)
  .obtain ⟨A, B⟩:kind=10/\X=8:=by simpa using e
   by_cases qq:CW P i=0
   .rw [Yak qq]at f ⊢
    have c:=xd;refine Go ?_;refine Wg (Aab (i:=0) (ds:=cn3 j) rfl rfl (Aa rfl) (Aa rfl) rfl ZbL ZbL (YbZ _)) ?_;refine Go ?_;refine FI (ao rfl) (λq=>?_) (λq=>?_)
    .exact Zbs
    .exact Zbt
   .rw [Yad qq]at f ⊢
    refine Go ?_;exact ZiH
  refine Go ?_;refine CutS.normal () (by simp only[Xs,C,y,K,Y,e,Bool.false_and,Bool.or_false]) ?_;exact Ac ZcV Zda
 .rintro-xe
  rw[xe];apply Ah;refine Dy 6 ?_;refine Dw ?_;refine Sf ?_;refine Sf ?_;apply Y0;refine CL 2 5 rfl rfl rfl ?_;refine CL 3 6 rfl rfl rfl ?_;apply Ah;refine Dy 6 ?_;have a:=xb;have p:=xc;refine Dw ?_;refine Sf ?_;refine Sf ?_;apply Y0;refine CL 4 7 rfl rfl rfl ?_;refine CL 5 8 rfl rfl rfl ?_;refine Ah<|Y1 ?_;refine Wq Cb ?_;refine Wq Cb ?_;refine Wq (AJ (xf)) ?_;refine Wm ?_;refine Wv0 (λR=>Cb) ?_;refine Wv0 (λR=>Cb) ?_;refine Wv2 128 rfl 129 rfl (λR=>AJ (xg)) ?_;refine Wq NT ?_;refine Wm ?_;refine Wv0 (λR=>AG) ?_;refine Wv1 133 rfl (λR=>AT) ?_;refine Wv0 (λR=>AG) ?_;refine Wv1 135 rfl (λR=>AT) ?_;refine Wv2 134 rfl 136 rfl (λR=>Ci) ?_;refine Wq NT ?_;apply Y0
  refine FI (ao rfl) (λq=>?_) (λq=>?_)
  .refine Go ?_
   exact AA (Am (ResV.tmp rfl rfl) (Ae (congrArg (λz=>ex (.bool z)) (by rw[show rgP kind u x v I=true from q];simp))))
  .by_cases k:kind=2
   .refine Go ?_;refine Wg (A3Y rfl rfl) ?_;refine Go ?_
    exact ZkA
   .refine Go ?_
    exact ZkA
section
variable {kind kind':Int} {P P':List Tm} {n n' d d' r r':Int} {o o':List (Nat->Int)} {l l':List (List RTm)} {s s':List Int} {b b':List (Nat->RQ×RQ)} {x y:Bool}
theorem A45(q:Abs prog 71 [AQ (clC kind P n d r o l s b),AQ (clC kind' P' n' d' r' o' l' s' b')] (ex (.bool x)))(A:Abs prog 71 [AQ (clC kind' P' n' d' r' o' l' s' b'),AQ (clC kind P n d r o l s b)] (ex (.bool y))) :
  Abs prog 29 [AQ (clC kind P n d r o l s b),AQ (clC kind' P' n' d' r' o' l' s' b')] (ex (.bool (x||y))):=by
 refine Ab func29 λw=>?_;rw[ntmps29];apply Y1;refine Bx ?_;refine Bx ?_;refine Wa<|Y0 ?_;refine CL 0 2 rfl rfl rfl ?_;refine CL 1 3 rfl rfl rfl ?_;apply Y1;refine Wq Cb ?_;refine Wq Cb ?_;refine Wq (AJ (q)) ?_;refine Wm ?_;refine Wv0 (λR=>Cb) ?_;refine Wv0 (λR=>Cb) ?_;refine Wv2 9 rfl 10 rfl (λR=>AJ (A)) ?_;refine Wq NT ?_;refine Wa<|Y0<|BV ?_
 exact Yf
end
def pQ(Q:List (List Tm))(i n:Nat):List (List Tm):=(List.range n).map λj=>if Q.length=0 then[]else Q.getD ((i+j)%Q.length) default
def pC(L:List (Nat×List (Nat->Int))):List Tm:=if(AZ L).length=0 then[]else(AZ L).getD (2%(AZ L).length) default
def rQ(Q:List (List Tm)):List (List RTm):=Q.map λP=>P.map DK
noncomputable def Cw (q:Nat) (L:List (Nat×List (Nat->Int))) (V:List Int):Clm:=
 if q%13=0\/q%13=1\/q%13=9 then⟨1+((q%13:Nat):Int),(pC L).map DK,0,0,0,[],[],[],[]⟩
 else if q%13=3 then⟨4,[],0,0,0,CS (AR V 2%256).toNat,rQ (pQ (AZ L) 1 (AR V 1%8%4).toNat),[],[]⟩
 else if q%13=4 then⟨5,[],AR V 3%16,AR V 1%8%4-1,0,[],[],[],[]⟩
 else if q%13=5 then⟨6,[],AR V 1%8,AR V 1%8-AR V 1%8/3,AR V 1%8/2,[],[],[],[]⟩
 else if q%13=6 then⟨7,[],0,0,0,[],[],[],(List.range (AR V 1%8%4).toNat).map (Eh V)⟩
 else if q%13=7 then⟨8,(pC L).map DK,0,0,0,[],[],(List.range (AR V 1%8%4).toNat).map (λi=>(AR V i%128)%3-1),(List.range (AR V 1%8%4).toNat).map (Eh V)⟩
 else if q%13=10 then⟨11,[],0,0,0,[],rQ (pQ (AZ L) 1 (AR V 1%8%4).toNat),[],[]⟩
 else if q%13=11\/q%13=12 then⟨1+((q%13:Nat):Int),[],AR V 1%8,0,0,[],[],[],[]⟩
 else⟨1+((q%13:Nat):Int),[],0,0,0,[],[],[],[]⟩
theorem A4z(a:Int):IntKind.u8.wrap a=(((a%256).toNat:Nat):Int):=by
 exact Zgf
theorem Gn(kind:Int)(P:List Tm)(n d r:Int)(o:List (Nat->Int))(Q:List (List Tm))(s:List Int)(b:List (Nat->RQ×RQ)):ED ⟨kind,P.map DK,n,d,r,o,rQ Q,s,b⟩=[ex (.int .i64 kind),BP P,ex (.int .i64 n),ex (.int .i64 d),ex (.int .i64 r),Du o,Ba Q,Nw s,FX b]:=by
 rw[A0F,EZ];rfl
abbrev Hh(T o:Nat)(q:Nat)(L:List (Nat×List (Nat->Int)))(V:List Int):List D:=[ex (.int .u8 (q:Nat)),rwD T L,Ov o V]
theorem Td(T o:Nat)(B:Nat)(i:B<256)(A:B%13≠6)(C:B%13≠7)(L:List (Nat×List (Nat->Int)))(m:Tx L)(V:List Int)(d:I8 V)(I:V.length<=9223372036854775807):Abs prog 24 [AQ (Hh T o B L V)] (AQ (ED (Cw B L V))):=by
 have t:=EA T L m
 have k:(AZ L).length<=6:=by
  exact ZhV
 have G:Abs prog 62 [Ba (AZ L),ex (.int .i64 (2:Nat)),ex (.int .i64 (1:Nat))] (Ba [pC L]):=Ev (AZ L) 2 1 ZbL ZbL ZbG;have K:=CH o V d 1 ZbL I;have q:=Cj d 1;by_cases s:B%13=3
 .rw [show Cw B L V=⟨4, ([]:List Tm).map DK, 0, 0, 0, CS (AR V 2%256).toNat, rQ (pQ (AZ L) 1 (AR V 1%8%4).toNat), [], []⟩ from by simp [Cw, rQ, s]]
  rw[Gn];refine Ab func24 λw=>?_;rw[ntmps24];refine Go ?_;refine Dy 9 ?_;refine Dw ?_;refine⟨_,HStep.q rfl (Ez 3 rfl rfl ZbG),?_⟩;refine Dw ?_;have E:=CH o V d 2 ZbL I;have f:=Pq (AR V 2%256).toNat ZbG;have O:=Ev (AZ L) 1 (AR V 1%8%4).toNat ZbL ZbG ZbG;refine Wa<|Y0<|Ah<|Y1 ?_;refine Wq AC ?_;refine Wq Ao ?_;refine Y0<|AWp.block<|Ah<|Y1 ?_;refine Wq AO ?_;refine Wa<|Y0<|Cf<|Y1 ?_;refine Wq AO ?_;refine Wa<|Y0<|Cf<|AWp.region ?_;refine Wq AO ?_;refine Wa<|Y0<|Cf<|Y1 ?_;refine Wq Bc ?_;refine Wa<|Y0<|Ct<|AWp.region ?_;refine Wq AC ?_;refine Wq Ao ?_;refine Wq (AJ (E)) ?_;refine Wq (AP (r:=(((AR V 2%256).toNat:Nat):Int)) (ao rfl) (Aa rfl) (Aa rfl) (A4z _)) ?_;refine Wq (AJ (f)) ?_;refine Wm<|Wm ?_;refine Wq (Eq (r:=(((AR V 1%8%4).toNat:Nat):Int)) (ao rfl) (ao rfl) ((DF (AR V 1%((2^3:Nat):Int)) (j:=2) ZbG).trans ZbG)) ?_;refine Wq (AJ (O)) ?_;refine Wq AC ?_;refine De (ao rfl) (ao rfl) rfl (Aa rfl) ZbX rfl rfl ?_;refine Wq AC ?_;refine De (ao rfl) (ao rfl) rfl (Aa rfl) ZbX rfl rfl ?_;refine AWl.nil<|Bi<|Yn<|Y1 ?_;refine Wq AD ?_;refine Sf ?_;refine Y0<|BV ?_
  exact AA (Am (ResV.cell rfl rfl (Aa rfl) rfl rfl rfl) (Ce ZbQ))
 by_cases Q:B%13=10
 .rw [show Cw B L V=⟨11, ([]:List Tm).map DK, 0, 0, 0, [], rQ (pQ (AZ L) 1 (AR V 1%8%4).toNat), [], []⟩ from by simp [Cw, rQ, Q]]
  rw[Gn];refine Ab func24 λw=>?_;refine ZgQ ?_;refine Dw ?_;have O:=Ev (AZ L) 1 (AR V 1%8%4).toNat ZbL ZbG ZbG;refine Go ?_;refine Wq (Eq (r:=(((AR V 1%8%4).toNat:Nat):Int)) (ao rfl) (ao rfl) ((DF (AR V 1%((2^3:Nat):Int)) (j:=2) ZbG).trans ZbG)) ?_;exact ZfG
 by_cases M:B%13=4
 .rw [show Cw B L V=⟨5, ([]:List Tm).map DK, AR V 3%16, AR V 1%8%4-1, 0, [], rQ [], [], []⟩ from by simp [Cw, rQ, M]]
  rw[Gn];refine Ab func24 λw=>?_;refine ZgQ ?_;refine Dw ?_;have E:=CH o V d 3 ZbL I;refine Go ?_;refine Wq (Ez 2 rfl rfl ZbG) ?_;refine Go ?_;refine Wq (Ez 4 rfl rfl ZbG) ?_;exact ZfG
 by_cases N:B%13=5
 .rw [show Cw B L V=⟨6, ([]:List Tm).map DK, AR V 1%8, AR V 1%8-AR V 1%8/3, AR V 1%8/2, [], rQ [], [], []⟩ from by simp [Cw, rQ, N]]
  exact ZiQ
 by_cases Y:B%13=0
 .rw [show Cw B L V=⟨1, (pC L).map DK, 0, 0, 0, [], rQ [], [], []⟩ from by simp [Cw, rQ, Y]]
  exact ZiQ
 by_cases y:B%13=1
 .rw [show Cw B L V=⟨2, (pC L).map DK, 0, 0, 0, [], rQ [], [], []⟩ from by simp [Cw, rQ, y]]
  exact ZiQ
 by_cases J:B%13=9
 .rw [show Cw B L V=⟨10, (pC L).map DK, 0, 0, 0, [], rQ [], [], []⟩ from by simp [Cw, rQ, J]]
  exact ZiQ
 by_cases F:B%13=2
 .rw [show Cw B L V=⟨3, ([]:List Tm).map DK, 0, 0, 0, [], rQ [], [], []⟩ from by simp [Cw, rQ, F]]
  exact ZiQ
 by_cases S:B%13=8
 .rw [show Cw B L V=⟨9, ([]:List Tm).map DK, 0, 0, 0, [], rQ [], [], []⟩ from by simp [Cw, rQ, S]]
  exact ZiQ
 by_cases c:B%13=11
 .rw [show Cw B L V=⟨12, ([]:List Tm).map DK, AR V 1%8, 0, 0, [], rQ [], [], []⟩ from by simp [Cw, rQ, c]]
  exact ZiQ
 by_cases j:B%13=12
 .rw [show Cw B L V=⟨13, ([]:List Tm).map DK, AR V 1%8, 0, 0, [], rQ [], [], []⟩ from by simp [Cw, rQ, j]]
  exact ZiQ
 omega
def orD(x y:D):D:=⟨λs v=>x.rel s v\/y.rel s v,λh F=>h.elim (λh=>.inl (x.st h F)) λh=>.inr (y.st h F)⟩
theorem A6U(h:D.le r vx):D.le r (orD vx up):=λs v q=>.inl (h s v q)
theorem A6T(h:D.le r up):D.le r (orD vx up):=λs v q=>.inr (h s v q)
abbrev TM(V:List Int)(k:Nat):List (Nat->RQ×RQ):=(List.range k).map (Eh V)
theorem YN(V:List Int)(k:Nat):(TM V (k+1)).map Dv=(TM V k).map Dv++[Dv (Eh V k)]:=by simp[TM,Ycv]
abbrev sgK(V:List Int)(k:Nat):List Int:=(List.range k).map λi=>(AR V i%128)%3-1
abbrev sgR(V:List Int)(k:Nat):List (List D):=(sgK V k).map λz=>[ex (.int .i64 z)]
theorem A4Q(V:List Int)(k:Nat):sgR V (k+1)=sgR V k++[[ex (.int .i64 ((AR V k%128)%3-1))]]:=by simp[sgR,sgK,Ycv]
theorem TR(T o:Nat)(E:Nat)(i:E<256)(L:List (Nat×List (Nat->Int)))(m:Tx L)(V:List Int)(d:I8 V)(I:V.length<=9223372036854775807)(J:E%13=6):Abs prog 24 [AQ (Hh T o E L V)] (AQ (ED (Cw E L V))):=by
 have t:=EA T L m
 have A:(AZ L).length<=6:=by
  exact ZhV
 have G:Abs prog 62 [Ba (AZ L),ex (.int .i64 (2:Nat)),ex (.int .i64 (1:Nat))] (Ba [pC L]):=Ev (AZ L) 2 1 ZbL ZbL ZbG;have K:=CH o V d 1 ZbL I;have q:=Cj d 1;obtain⟨N,F⟩:∃N,N=(AR V 1%8%4).toNat:=⟨_,rfl⟩;rw[show Cw E L V=⟨7,([]:List Tm).map DK,0,0,0,[],rQ [],[],TM V N⟩from by simp[Cw,rQ,J,TM,sgK,F]];rw[Gn];refine Ab func24 λw=>?_;refine ZgQ ?_;refine ZfU ?_;rw[show(1+(E:Int)%13)=7 by omega];refine Fd 131 64 ZbL ZbL rfl ?_;refine AF (λC c=>∃k v,k<=N/\C=N-k/\c=⟨[(1,.ptr 0 0),(2,.ptr 1 0),(4,.ptr 2 0),(5,.d (BP (pC L))),(6,.d (ex (.int .i64 (AR V 1%((2^3:Nat):Int))))),(7,.d (ex (.int .i64 (k:Nat))))],[.var 58 ((Hh T o E L V).map .d),.var 34 (([ex (.int .i64 0),ex (.slice none 0 0),ex (.int .i64 0),ex (.int .i64 0),ex (.int .i64 0),ex (.slice none 0 0),ex (.slice none 0 0),ex (.slice none 0 0),ex (.slice none 0 0)]:List D).map .d),.var 34 (([ex (.int .i64 7),ex (.slice none 0 0),ex (.int .i64 0),ex (.int .i64 0),ex (.int .i64 0),ex (.slice none 0 0),ex (.slice none 0 0),ex (.slice none 0 0),ex v]:List D).map .d),.obj (Mc v 131 64 ((TM V k).map Dv))]⟩) ?le ⟨0,.slice none 0 0,by omega,rfl,rfl⟩ ?round
 case le=>exact Ac ZdY (by exact Yv<|Yv<|Yv<|HpLe.cons (OwLe.obj rfl)<|HpLe.nil)
 case round=>
  rintro C _ ⟨k,v,B,rfl,rfl⟩;by_cases O:k<N
  .have Z:=Lr o V d I k ZbG
   refine Go ?_;refine Wq (Eq (r:=((N:Nat):Int)) (ao rfl) (ao rfl) ((DF (AR V 1%((2^3:Nat):Int)) (j:=2) ZbG).trans ZbG)) ?_;refine Go ?_;refine FH 3 (.obj (Mc v 131 64 ((TM V k).map Dv))) (.row 131 64 ((TM V k).map Dv++[Dv (Eh V k)])) 7 9 [8,7,6,5,4,3,2,1,0] [] [.ptr 2 8,.d (ex v),.ptr 0 2,.d (Ov o V),.d (ex (.int .i64 (k:Nat))),.d (AQ (Dv (Eh V k))),.d (slD 131 64 [Dv (Eh V k)]),.own 3,.ptr 2 8] [[],[(78,0)],[],[(80,2)],[],[(81,3),(82,4)],[(83,5)],[(79,1),(84,6)],[]] [(1,.ptr 0 0),(2,.ptr 1 0),(4,.ptr 2 0),(5,.d (BP (pC L))),(6,.d (ex (.int .i64 (AR V 1%((2^3:Nat):Int))))),(7,.d (ex (.int .i64 (k:Nat))))] [(85,.own 3),(86,.ptr 2 8),(1,.ptr 0 0),(2,.ptr 1 0),(4,.ptr 2 0),(5,.d (BP (pC L))),(6,.d (ex (.int .i64 (AR V 1%((2^3:Nat):Int))))),(7,.d (ex (.int .i64 (k:Nat))))] ZbK rfl ⟨rfl,rfl,rfl,rfl,rfl,rfl,trivial⟩ rfl rfl ZbK ZbK ZbK ZcM ZbK ZbK ⟨rfl,rfl,rfl,rfl,rfl,rfl,rfl,rfl,trivial⟩ [.var 58 ((Hh T o E L V).map .d),.var 34 (([ex (.int .i64 0),ex (.slice none 0 0),ex (.int .i64 0),ex (.int .i64 0),ex (.int .i64 0),ex (.slice none 0 0),ex (.slice none 0 0),ex (.slice none 0 0),ex (.slice none 0 0)]:List D).map .d),.var 34 (([ex (.int .i64 7),ex (.slice none 0 0),ex (.int .i64 0),ex (.int .i64 0),ex (.int .i64 0),ex (.slice none 0 0),ex (.slice none 0 0),ex (.slice none 0 0),ex v]:List D).map .d),.row 131 64 ((TM V k).map Dv++[Dv (Eh V k)])] rfl ?_;refine Ep (ao rfl) (ao rfl) rfl (Aa rfl) (One.own rfl) rfl rfl ?_;apply Y0;(refine FR 3 131 64 ((TM V (k+1)).map Dv) (by rw[YN];rfl) λb=>?_);apply Y1;refine Wq AC ?_;refine Wq Cn ?_;refine Wq AO ?_;refine Y0<|Cf<|GX<|Bi<|Yn<|AWp.region<|Wm ?_;refine Wq CJ ?_;refine Wa<|AWl.nil ?_
   skip
   refine Ai (N-(k+1)) ZbG ⟨k+1,b,by omega,rfl,rfl⟩ ?_;exact Ac ZdY (by exact HpLe.cons (Ad rfl)<|HpLe.cons (Ad rfl)<|HpLe.cons (Ad rfl)<|HpLe.cons (OwLe.obj rfl)<|HpLe.nil)
  .obtain rfl:k=N:=by omega
   refine DV (σ':=⟨[(1,.ptr 0 0),(2,.ptr 1 0),(4,.ptr 2 0),(5,.d (BP (pC L))),(6,.d (ex (.int .i64 (AR V 1%((2^3:Nat):Int))))),(7,.d (ex (.int .i64 (k:Nat))))],[.var 58 ((Hh T o E L V).map .d),.var 34 (([ex (.int .i64 0),ex (.slice none 0 0),ex (.int .i64 0),ex (.int .i64 0),ex (.int .i64 0),ex (.slice none 0 0),ex (.slice none 0 0),ex (.slice none 0 0),ex (.slice none 0 0)]:List D).map .d),.var 34 (([ex (.int .i64 7),ex (.slice none 0 0),ex (.int .i64 0),ex (.int .i64 0),ex (.int .i64 0),ex (.slice none 0 0),ex (.slice none 0 0),ex (.slice none 0 0),FX (TM V k)]:List D).map .d),.dead]⟩) ?wk ?_
   case wk=>exact Ac ZcC (HpLe.cons (OwLe.varD rfl) (HpLe.cons (OwLe.varD rfl) (HpLe.cons (OwLe.cells (CellsLe.cons (AVle.d rfl) (CellsLe.cons (AVle.d rfl) (CellsLe.cons (AVle.d rfl) (CellsLe.cons (AVle.d rfl) (CellsLe.cons (AVle.d rfl) (CellsLe.cons (AVle.d rfl) (CellsLe.cons (AVle.d rfl) (CellsLe.cons (AVle.d rfl) (CellsLe.cons (AVle.rows (id:=3) rfl) CellsLe.nil)))))))))) (HpLe.cons OwLe.dead HpLe.nil))))
   refine Go ?_;exact ZgZ
theorem TP(T o:Nat)(E:Nat)(i:E<256)(L:List (Nat×List (Nat->Int)))(m:Tx L)(V:List Int)(d:I8 V)(I:V.length<=9223372036854775807)(M:E%13=7):Abs prog 24 [AQ (Hh T o E L V)] (AQ (ED (Cw E L V))):=by
 have t:=EA T L m
 have A:(AZ L).length<=6:=by
  exact ZhV
 have G:Abs prog 62 [Ba (AZ L),ex (.int .i64 (2:Nat)),ex (.int .i64 (1:Nat))] (Ba [pC L]):=Ev (AZ L) 2 1 ZbL ZbL ZbG;have K:=CH o V d 1 ZbL I;have q:=Cj d 1;obtain⟨N,F⟩:∃N,N=(AR V 1%8%4).toNat:=⟨_,rfl⟩;rw[show Cw E L V=⟨8,(pC L).map DK,0,0,0,[],rQ [],sgK V N,TM V N⟩from by simp[Cw,rQ,M,TM,sgK,F]];rw[Gn];refine Ab func24 λw=>?_;refine ZgQ ?_;refine ZfU ?_;rw[show(1+(E:Int)%13)=8 by omega];refine Fd 131 64 ZbL ZbL rfl ?_;refine Fd 3 1 ZbL ZbL rfl ?_;refine AF (λC c=>∃k v u,k<=N/\C=N-k/\c=⟨[(1,.ptr 0 0),(2,.ptr 1 0),(4,.ptr 2 0),(5,.d (BP (pC L))),(6,.d (ex (.int .i64 (AR V 1%((2^3:Nat):Int))))),(7,.d (ex (.int .i64 (k:Nat))))],[.var 58 ((Hh T o E L V).map .d),.var 34 (([ex (.int .i64 0),ex (.slice none 0 0),ex (.int .i64 0),ex (.int .i64 0),ex (.int .i64 0),ex (.slice none 0 0),ex (.slice none 0 0),ex (.slice none 0 0),ex (.slice none 0 0)]:List D).map .d),.var 34 (([ex (.int .i64 8),orD (ex (.slice none 0 0)) (BP (pC L)),ex (.int .i64 0),ex (.int .i64 0),ex (.int .i64 0),ex (.slice none 0 0),ex (.slice none 0 0),ex u,ex v]:List D).map .d),.obj (Mc v 131 64 ((TM V k).map Dv)),.obj (Mc u 3 1 (sgR V k))]⟩) ?le ⟨0,.slice none 0 0,.slice none 0 0,by omega,rfl,rfl⟩ ?round
 case le=>exact Ac ZcC (HpLe.cons (OwLe.varD rfl) (HpLe.cons (OwLe.varD rfl) (HpLe.cons (OwLe.cells (CellsLe.cons (AVle.d rfl) (CellsLe.cons (AVle.le (A6U (D.le.refl _))) (CellsLe.cons (AVle.d rfl) (CellsLe.cons (AVle.d rfl) (CellsLe.cons (AVle.d rfl) (CellsLe.cons (AVle.d rfl) (CellsLe.cons (AVle.d rfl) (CellsLe.cons (AVle.d rfl) (CellsLe.cons (AVle.d rfl) CellsLe.nil)))))))))) (HpLe.cons (OwLe.obj rfl) (HpLe.cons (OwLe.obj rfl) HpLe.nil)))))
 case round=>
  rintro C _ ⟨k,v,u,B,rfl,rfl⟩;by_cases O:k<N
  .have Z:=Lr o V d I k ZbG
   have p:=CH o V d k ZbG I;have J:=Cj d k;refine Go ?_;refine Wq (Eq (r:=((N:Nat):Int)) (ao rfl) (ao rfl) ((DF (AR V 1%((2^3:Nat):Int)) (j:=2) ZbG).trans ZbG)) ?_;refine Go ?_;refine FH 3 (.obj (Mc v 131 64 ((TM V k).map Dv))) (.row 131 64 ((TM V k).map Dv++[Dv (Eh V k)])) 7 9 [8,7,6,5,4,3,2,1,0] [] [.ptr 2 8,.d (ex v),.ptr 0 2,.d (Ov o V),.d (ex (.int .i64 (k:Nat))),.d (AQ (Dv (Eh V k))),.d (slD 131 64 [Dv (Eh V k)]),.own 3,.ptr 2 8] [[],[(78,0)],[],[(80,2)],[],[(81,3),(82,4)],[(83,5)],[(79,1),(84,6)],[]] [(1,.ptr 0 0),(2,.ptr 1 0),(4,.ptr 2 0),(5,.d (BP (pC L))),(6,.d (ex (.int .i64 (AR V 1%((2^3:Nat):Int))))),(7,.d (ex (.int .i64 (k:Nat))))] [(85,.own 3),(86,.ptr 2 8),(1,.ptr 0 0),(2,.ptr 1 0),(4,.ptr 2 0),(5,.d (BP (pC L))),(6,.d (ex (.int .i64 (AR V 1%((2^3:Nat):Int))))),(7,.d (ex (.int .i64 (k:Nat))))] ZbK rfl ⟨rfl,rfl,rfl,rfl,rfl,rfl,trivial⟩ rfl rfl ZbK ZbK ZbK ZcM ZbK ZbK ⟨rfl,rfl,rfl,rfl,rfl,rfl,rfl,rfl,trivial⟩ [.var 58 ((Hh T o E L V).map .d),.var 34 (([ex (.int .i64 0),ex (.slice none 0 0),ex (.int .i64 0),ex (.int .i64 0),ex (.int .i64 0),ex (.slice none 0 0),ex (.slice none 0 0),ex (.slice none 0 0),ex (.slice none 0 0)]:List D).map .d),.var 34 (([ex (.int .i64 8),orD (ex (.slice none 0 0)) (BP (pC L)),ex (.int .i64 0),ex (.int .i64 0),ex (.int .i64 0),ex (.slice none 0 0),ex (.slice none 0 0),ex u,ex v]:List D).map .d),.row 131 64 ((TM V k).map Dv++[Dv (Eh V k)]),.obj (Mc u 3 1 (sgR V k))] rfl ?_;refine Ep (ao rfl) (ao rfl) rfl (Aa rfl) (One.own rfl) rfl rfl ?_;apply Y0;(refine FR 3 131 64 ((TM V (k+1)).map Dv) (by rw[YN];rfl) λb=>?_);apply Y1;refine Wq AC ?_;refine Wq Cn ?_;refine Wq Bc ?_;refine Y0<|Ct ?_
   refine DV (σ':=⟨[(1,.ptr 0 0),(2,.ptr 1 0),(4,.ptr 2 0),(5,.d (BP (pC L))),(6,.d (ex (.int .i64 (AR V 1%((2^3:Nat):Int))))),(7,.d (ex (.int .i64 (k:Nat))))],[.var 58 ((Hh T o E L V).map .d),.var 34 (([ex (.int .i64 0),ex (.slice none 0 0),ex (.int .i64 0),ex (.int .i64 0),ex (.int .i64 0),ex (.slice none 0 0),ex (.slice none 0 0),ex (.slice none 0 0),ex (.slice none 0 0)]:List D).map .d),.var 34 (([ex (.int .i64 8),orD (ex (.slice none 0 0)) (BP (pC L)),ex (.int .i64 0),ex (.int .i64 0),ex (.int .i64 0),ex (.slice none 0 0),ex (.slice none 0 0),ex u,ex b]:List D).map .d),.obj (Mc b 131 64 ((TM V (k+1)).map Dv)),.obj (Mc u 3 1 (sgR V k))]⟩) ?wk2 ?_
   case wk2=>exact Ac ZdY (by exact HpLe.cons (Ad rfl)<|HpLe.cons (Ad rfl)<|HpLe.cons (Ad rfl)<|HpLe.cons (OwLe.obj rfl)<|HpLe.cons (OwLe.obj rfl)<|HpLe.nil)
   skip
   refine FH 4 (.obj (Mc u 3 1 (sgR V k))) (.row 3 1 (sgR V k++[[ex (.int .i64 ((AR V k%128)%3-1))]])) 11 13 [12,11,10,9,8,7,6,5,4,3,2,1,0] [] [.d (BP (pC L)),.ptr 2 7,.d (ex u),.ptr 0 2,.d (Ov o V),.d (ex (.int .i64 (k:Nat))),.d (ex (.int .i64 (AR V k))),.d (ex (.int .i64 (AR V k%128))),.d (ex (.int .i64 (AR V k%128%3))),.d (ex (.int .i64 (AR V k%128%3-1))),.d (slD 3 1 [[ex (.int .i64 ((AR V k%128)%3-1))]]),.own 4,.ptr 2 1] [[],[],[(91,1)],[],[(93,3)],[],[(94,4),(95,5)],[(96,6)],[(97,7)],[(98,8)],[(99,9)],[(92,2),(100,10)],[]] [(1,.ptr 0 0),(2,.ptr 1 0),(4,.ptr 2 0),(5,.d (BP (pC L))),(6,.d (ex (.int .i64 (AR V 1%((2^3:Nat):Int))))),(7,.d (ex (.int .i64 (k:Nat))))] [(101,.own 4),(102,.ptr 2 1),(90,.d (BP (pC L))),(1,.ptr 0 0),(2,.ptr 1 0),(4,.ptr 2 0),(5,.d (BP (pC L))),(6,.d (ex (.int .i64 (AR V 1%((2^3:Nat):Int))))),(7,.d (ex (.int .i64 (k:Nat))))] ZbK rfl ⟨rfl,rfl,rfl,rfl,rfl,rfl,trivial⟩ rfl rfl ZbK ZbK ZbK (by refine DSteps.q rfl ZbE ?_;refine DSteps.q rfl ZbE ?_;refine DSteps.q rfl ZbE ?_;refine DSteps.q rfl ZbE ?_;refine DSteps.q rfl ZbE ?_;refine DSteps.q rfl ZbE ?_;refine DSteps.q rfl (λ_=>BQ (ah rfl) p (ArgsLe.cons rfl (D.le.refl _) (ArgsLe.cons rfl (D.le.refl _) ArgsLe.nil))) ?_;refine DSteps.q rfl (λ_=>Eq (ah rfl) (ah rfl) ((DF (AR V k) (j:=7) ZbG).trans rfl)) ?_;refine DSteps.q rfl (λ_=>Mf (ah rfl) (ah rfl) ZbL (by rw[Ycl ZbG])) ?_;refine DSteps.q rfl (λ_=>Pu (ah rfl) (ah rfl) ZbG ZbG) ?_;refine DSteps.q rfl (λ_=>As Zdl) ?_;refine DSteps.k rfl (DTurn.rows rfl rfl rfl (Aa rfl) (Aa rfl) rfl rfl rfl rfl ZiB ZiB) ?_;refine DSteps.q rfl ZbE ?_;exact DSteps.nil) ZbK ZbK ⟨rfl,rfl,rfl,rfl,rfl,rfl,rfl,rfl,rfl,trivial⟩ [.var 58 ((Hh T o E L V).map .d),.var 34 (([ex (.int .i64 0),ex (.slice none 0 0),ex (.int .i64 0),ex (.int .i64 0),ex (.int .i64 0),ex (.slice none 0 0),ex (.slice none 0 0),ex (.slice none 0 0),ex (.slice none 0 0)]:List D).map .d),.var 34 (([ex (.int .i64 8),orD (ex (.slice none 0 0)) (BP (pC L)),ex (.int .i64 0),ex (.int .i64 0),ex (.int .i64 0),ex (.slice none 0 0),ex (.slice none 0 0),ex u,ex b]:List D).map .d),.obj (Mc b 131 64 ((TM V (k+1)).map Dv)),.row 3 1 (sgR V k++[[ex (.int .i64 ((AR V k%128)%3-1))]])] rfl ?_;refine De (ao rfl) (ao rfl) rfl (Aa rfl) ZbX rfl rfl ?_;refine Wq AC ?_;refine Ep (ao rfl) (ao rfl) rfl (Aa rfl) (One.own rfl) rfl rfl ?_;refine AWl.nil<|Bi<|Yn ?_;(refine FR 4 3 1 (sgR V (k+1)) (by rw[A4Q];rfl) λx=>?_);refine AWp.region<|Wm ?_;refine Wq CJ ?_;refine Wa<|AWl.nil ?_
   skip
   refine Ai (N-(k+1)) ZbG ⟨k+1,b,x,by omega,rfl,rfl⟩ ?_;exact Ac (by repeat (first | exact FrLe.nil | refine Yp ?_ | refine Yd ?_ | refine FrLe.cons rfl (AVle.int ZbG) ?_)) (HpLe.cons (Ad rfl) (HpLe.cons (Ad rfl) (HpLe.cons (OwLe.cells (CellsLe.cons (AVle.d rfl) (CellsLe.cons (AVle.le (A6T (D.le.refl _))) (CellsLe.cons (AVle.d rfl) (CellsLe.cons (AVle.d rfl) (CellsLe.cons (AVle.d rfl) (CellsLe.cons (AVle.d rfl) (CellsLe.cons (AVle.d rfl) (CellsLe.cons (AVle.d rfl) (CellsLe.cons (AVle.d rfl) CellsLe.nil)))))))))) (HpLe.cons (OwLe.obj rfl) (HpLe.cons (OwLe.obj rfl) HpLe.nil)))))
  .obtain rfl:k=N:=by omega
   refine DV (σ':=⟨[(1,.ptr 0 0),(2,.ptr 1 0),(4,.ptr 2 0),(5,.d (BP (pC L))),(6,.d (ex (.int .i64 (AR V 1%((2^3:Nat):Int))))),(7,.d (ex (.int .i64 (k:Nat))))],[.var 58 ((Hh T o E L V).map .d),.var 34 (([ex (.int .i64 0),ex (.slice none 0 0),ex (.int .i64 0),ex (.int .i64 0),ex (.int .i64 0),ex (.slice none 0 0),ex (.slice none 0 0),ex (.slice none 0 0),ex (.slice none 0 0)]:List D).map .d),.var 34 (([ex (.int .i64 8),orD (ex (.slice none 0 0)) (BP (pC L)),ex (.int .i64 0),ex (.int .i64 0),ex (.int .i64 0),ex (.slice none 0 0),ex (.slice none 0 0),Nw (sgK V k),FX (TM V k)]:List D).map .d),.dead,.dead]⟩) ?wk ?_
   case wk=>exact Ac ZcC (HpLe.cons (OwLe.varD rfl) (HpLe.cons (OwLe.varD rfl) (HpLe.cons (OwLe.cells (CellsLe.cons (AVle.d rfl) (CellsLe.cons (AVle.d rfl) (CellsLe.cons (AVle.d rfl) (CellsLe.cons (AVle.d rfl) (CellsLe.cons (AVle.d rfl) (CellsLe.cons (AVle.d rfl) (CellsLe.cons (AVle.d rfl) (CellsLe.cons (AVle.rows (id:=4) rfl) (CellsLe.cons (AVle.rows (id:=3) rfl) CellsLe.nil)))))))))) (HpLe.cons OwLe.dead (HpLe.cons OwLe.dead HpLe.nil)))))
   refine Go ?_;exact ZgZ
theorem TQ(T o:Nat)(A:Nat)(i:A<256)(L:List (Nat×List (Nat->Int)))(m:Tx L)(V:List Int)(d:I8 V)(I:V.length<=9223372036854775807):Abs prog 24 [AQ (Hh T o A L V)] (AQ (ED (Cw A L V))):=by
 by_cases q:A%13=6
 .exact TR T o A i L m V d I q
 by_cases f:A%13=7
 .exact TP T o A i L m V d I f
 exact Td T o A i q f L m V d I
theorem A31(P Q:List Tm):decide (CW P Q=0)=Hg P Q:=by
 rw[YcJ,Ix];simp only[Yba];exact LH
theorem Vy(L:List (Nat×List (Nat->Int))):∀P∈AZ L,PB P 3 9 2:=λP h=>by
 obtain⟨x,_,rfl⟩:=YaA.1 h;exact A5u x.2 2 3 ZbL
theorem Ab3(L:List (Nat×List (Nat->Int))):PB (pC L) 3 9 2:=by
 unfold pC;split
 .exact PB.nil
 .rename_i h
  have O:2%(AZ L).length<(AZ L).length:=YaV _ ZbG;rw[Yab,Yac O];exact Vy L _ (Ybm O)
theorem LG(z:Nat):(CS z).length<=10:=by
 unfold CS
 repeat' split
 all_goals simp[revRows,Gf]
structure ClOk(kind n d r:Int)(P:List Tm)(o:List (Nat->Int))(s:List Int)(b:List (Nat->RQ×RQ)):Prop where
 kd:1<=kind/\kind<=13
 pb:PB P 3 9 2
 nb:0<=n/\n<=1000
 rb:0<=r/\r<=1000
 rn:0<=r/\r<=n\/kind≠6
 r5:kind=5->r=0
 ob:o.length<=1000
 sb:s.length<=1000
 bb:b.length<=1000
theorem ClOk.mk'{c:Clm}(P:List Tm)(Q:List (List Tm))(G:c.p=P.map DK)(I:c.l=rQ Q)(h:ClOk c.kind c.n c.d c.r P c.o c.s c.b):∃kind P n d r o Q s b,c=⟨kind,P.map DK,n,d,r,o,rQ Q,s,b⟩/\ClOk kind n d r P o s b:=by
 obtain⟨kind,p,n,d,r,o,l,s,b⟩:=c
 dsimp only at G I h
 subst G;subst I;exact⟨_,_,_,_,_,_,_,_,_,rfl,h⟩
theorem Se(A:Nat)(L:List (Nat×List (Nat->Int)))(V:List Int)(B:I8 V):∃kind P n d r o Q s b,Cw A L V=⟨kind,P.map DK,n,d,r,o,rQ Q,s,b⟩/\ClOk kind n d r P o s b:=by
 have q:=Cj B 1;have K:=Cj B 3;have G:=Ab3 L;have x:A%13<13:=YaV _ ZbL;unfold Cw;by_cases Y:A%13=0\/A%13=1\/A%13=9
 .rw [Yan Y]
  exact ClOk.mk' (pC L) [] rfl rfl ⟨by dsimp only;omega,G,by dsimp only;omega,by dsimp only;omega,.inl ZbZ,λ_=>rfl,by simp,by simp,by simp⟩
 rw[Yai Y];by_cases C:A%13=3
 .rw [Yan C]
  exact ClOk.mk' [] _ rfl rfl ⟨by dsimp only;omega,PB.nil,by dsimp only;omega,by dsimp only;omega,.inl ZbZ,λ_=>rfl,by have:=LG (AR V 2%256).toNat;exact Yat this ZbL,by simp,by simp⟩
 rw[Yai C];by_cases F:A%13=4
 .rw [Yan F]
  exact ZkB
 rw[Yai F];by_cases E:A%13=5
 .rw [Yan E]
  exact ClOk.mk' [] [] rfl rfl ⟨by dsimp only;omega,PB.nil,by dsimp only;omega,by dsimp only;omega,.inl ZbZ,λh=>(by dsimp only at h;omega),by simp,by simp,by simp⟩
 rw[Yai E];by_cases J:A%13=6
 .rw [Yan J]
  exact ClOk.mk' [] [] rfl rfl ⟨by dsimp only;omega,PB.nil,by dsimp only;omega,by dsimp only;omega,.inl ZbZ,λ_=>rfl,by simp,by simp,by simp;omega⟩
 rw[Yai J];by_cases U:A%13=7
 .rw [Yan U]
  exact ClOk.mk' (pC L) [] rfl rfl ⟨by dsimp only;omega,G,by dsimp only;omega,by dsimp only;omega,.inl ZbZ,λ_=>rfl,by simp,by simp;omega,by simp;omega⟩
 rw[Yai U];by_cases N:A%13=10
 .rw [Yan N]
  exact ClOk.mk' [] _ rfl rfl ⟨by dsimp only;omega,PB.nil,by dsimp only;omega,by dsimp only;omega,.inl ZbZ,λ_=>rfl,by simp,by simp,by simp⟩
 rw[Yai N];by_cases c:A%13=11\/A%13=12
 .rw [Yan c]
  exact ZkB
 rw[Yai c];exact ZkB
section
variable {kind kind' n n' d d' r r':Int} {P P':List Tm} {o o':List (Nat->Int)} {s s':List Int} {b b':List (Nat->RQ×RQ)}
end
def Fz(p:List Tm):List (List Tm)->Nat
 |[]=>0
 |q::l=>if CW q p<0 then Fz p l+1 else 0
theorem VC(p:List Tm):∀l,Fz p l<=l.length
 |[]=>Yah _
 |q::l=>by
  unfold Fz;split
  .have:=VC p l;exact ZiB
  .exact Yaw _
theorem VA(p:List Tm):∀{l:List (List Tm)} {k:Nat},k<Fz p l->CW (l.getD k default) p<0
 |[],k,h=>by simp[Fz]at h
 |q::l,0,h=>by
  unfold Fz at h;split at h
  .assumption
  .omega
 |q::l,k+1,h=>by
  unfold Fz at h;split at h
  .exact VA p (l:=l) ZbG
  .omega
theorem VD(p:List Tm):∀{l:List (List Tm)},Fz p l<l.length->¬CW (l.getD (Fz p l) default) p<0
 |[],h=>by simp[Fz]at h
 |q::l,h=>by
  unfold Fz at h ⊢;split at h
  .rename_i k
   rw[Yan k];simp only[Ydo];exact VD p (l:=l) Zdf
  .rename_i k
   rw[Yai k];exact k
noncomputable def GH (plain:Bool) (out:List (List Tm)) (p:List Tm):List (List Tm):=
 if p.length=0\/(plain=true/\HU p=0)\/(Fz p out<out.length/\Hg (out.getD (Fz p out) default) p=true)then out else out.take (Fz p out)++p::out.drop (Fz p out)
noncomputable def KJ (plain:Bool) (L:List (List Tm)) (k:Nat):List (List Tm):=(L.take k).foldl (λout P=>GH plain out (DZ P)) []
theorem JG(plain:Bool)(L:List (List Tm))(h:n<L.length):KJ plain L (n+1)=GH plain (KJ plain L n) (DZ (L.getD n default)):=by
 unfold KJ;rw[YcT,Yev,Yac h,Yab,Yac h];rfl
noncomputable abbrev Ju (plain:Bool) (L:List (List Tm)):List (List Tm):=KJ plain L L.length
theorem A5K(plain:Bool)(out:List (List Tm))(p:List Tm):(GH plain out p).length<=out.length+1:=by
 unfold GH;split
 .omega
 .exact ZiB
theorem KI(plain:Bool)(L:List (List Tm)):∀k,k<=L.length->(KJ plain L k).length<=k
 |0,_=>by simp[KJ]
 |k+1,h=>by
  rw[JG plain L ZbG];have q:=A5K plain (KJ plain L k) (DZ (L.getD k default));have A:=KI plain L k ZbG;omega
theorem A5J(h:uf∈GH o vL vb):uf=vb\/uf∈vL:=by
 unfold GH at h;split at h
 .exact .inr h
 .rcases YbQ.1 h with h | h
  .exact .inr (Ybs h)
  .rcases YaM.1 h with h | h
   .exact .inl h
   .exact .inr (Yci h)
theorem Nj{plain:Bool}{L:List (List Tm)}{q:List Tm}:∀{k},k<=L.length->q∈KJ plain L k->∃P∈L,q=DZ P
 |0,_,h=>by simp[KJ]at h
 |k+1,B,h=>by
  rw[JG plain L ZbG]at h;rcases A5J h with h | h
  .refine ⟨_,?_,h⟩
   rw[Yab,Yac ZbG];exact ZkC
  .exact Nj ZbG h
theorem A0n(h:PB vb 3 9 2):PSz (DZ vb) 1000/\PIn (DZ vb) 0 65535/\(DZ vb).length<=3:=by
 refine⟨?_,?_,by rw[Ny];exact h.len⟩
 .unfold DZ
  split
  .intro t L;cases L
  .rename_i d
   have q:=Nz vb h.sz h.can ZbG;have A:=Vh (m:=λ_=>0) q h.sz;exact A.mono (by have:=h.len;have:vb.length*9<=3*9:=YaC 9 h.len;omega)
 .unfold DZ
  split
  .intro t L;cases L
  .intro t L
   obtain⟨s,Z,rfl⟩:=YaA.1 L;have:=(h.ex.mono (YbM 0) (show(2:Int)<=65535 by decide)) s Z;rw[show(λ_:Nat=>(0:Int))=(λ_=>0)from rfl];simpa[Hk]using this
theorem SS(L:List (List Tm))(plain:Bool)(m:∀P∈L,PB P 3 9 2)(I:L.length<=100):Abs prog 61 [Ba L,ex (.bool plain)] (Ba (Ju plain L)):=by
 refine Ab func61 λw=>?_;rw[ntmps61];refine Go ?_;refine AF (λv c=>∃k,k<=L.length/\v=L.length-k/\c=⟨[(0,.d (Ba L)),(1,.d (ex (.bool plain))),(5,.d (Ba (KJ plain L k))),(6,.d (ex (.int .i64 (k:Nat))))],[]⟩) ?le ⟨0,by omega,rfl,rfl⟩ ?round
 case le=>exact Ac (by exact Yd<|Yd<|FrLe.cons rfl (Is rfl (D.le.refl _))<|Yd<|FrLe.nil) Zcf
 case round=>
  rintro v _ ⟨k,B,rfl,rfl⟩;by_cases A:k<L.length
  .have M:=m _ (show L.getD k default∈L by rw [Yab, Yac A]; exact Ybm _)
   obtain⟨X,r,a⟩:=A0n M;have e:=KI plain L k ZbG;have K:=Zg (L.getD k default) 9 M.sz M.can (M.ex.mono (YbM 0) ZbL) ZbL (Yat M.len ZbL);obtain⟨p,G⟩:∃p,p=DZ (L.getD k default):=⟨_,rfl⟩;obtain⟨O,J⟩:∃O,O=KJ plain L k:=⟨_,rfl⟩;rw[<-G]at K X r a;rw[<-J]at e ⊢
   have b:∀q∈O,PSz q 1000/\q.length<=3:=λq C=>by
    rw[J]at C;obtain⟨P,d,rfl⟩:=Nj ZbG C;exact⟨(A0n (m P d)).1,(A0n (m P d)).2.2⟩
   refine Go ?_;have g:=VC p O;have N:KJ plain L (k+1)=GH plain O p:=by rw[JG plain L A,<-J,<-G]
   have Z:=A6r p r ZbG;refine AF (λv c=>∃j,j<=Fz p O/\v=O.length-j/\c=⟨[(0,.d (Ba L)),(1,.d (ex (.bool plain))),(5,.d (Ba O)),(6,.d (ex (.int .i64 (k:Nat)))),(7,.d (BP p)),(8,.d (ex (.int .i64 (j:Nat))))],[]⟩) ?le ⟨0,Yaw _,rfl,rfl⟩ ?round
   case le=>exact Ac Zdx Zcf
   case round=>
    rintro v _ ⟨j,W,rfl,rfl⟩;by_cases S:j<Fz p O
    .have F:=VA p S
     have x:=b (O.getD j default) (by rw[Yab,Yac ZbG];exact Ybm _);have Q:=UQ (O.getD j default) p (x.1.mono ZbL) (X.mono ZbL) ZbG ZbG;refine Go ?_;refine Ai (O.length-(j+1)) ZbG ⟨j+1,by omega,rfl,rfl⟩ ?_;exact Ac Zdx Zcf
    .obtain rfl:j=Fz p O:=by omega
     by_cases u:Fz p O<O.length
     .have F:=VD p u
      have x:=b (O.getD (Fz p O) default) (by rw[Yab,Yac u];exact Ybm _);have Q:=UQ (O.getD (Fz p O) default) p (x.1.mono ZbL) (X.mono ZbL) ZbG ZbG;have f:=A0U (O.getD (Fz p O) default) p;by_cases y:p.length=0
      .exact Zbu
      cases plain with
      |true=>
       by_cases o:HU p=0
       .exact Zbv
       cases Y:Hg (O.getD (Fz p O) default) p with
       |true=>
        rw[Y]at f;have E:O=GH true O p:=by rw[GH,Yan (.inr (.inr ⟨u,Y⟩))]
        refine ZfB ?_;exact Ac ZcE Zcf
       |false=>
        rw[Y]at f;have E:O.take (Fz p O)++p::O.drop (Fz p O)=GH true O p:=by rw[GH,Yai (by rintro(h | ⟨h,V⟩ | ⟨h,V⟩);exact y h;exact o V;(rw[Y]at V;cases V))]
        refine Ah<|Y1<|Wm<|Wm ?_;refine Wq BK ?_;refine Wq Bc ?_;refine Wm ?_;refine Wg AL ?_;refine Wg AL ?_;refine Wg Dp ?_;refine Wg AT ?_;refine Wg AL ?_;refine Wg (AJ (Q)) ?_;refine Wg AO ?_;refine Wq Ck ?_;refine Y0<|Cf<|Cg<|BD<|BS<|BI<|Yn<|Ah<|Y1<|Wm ?_;refine Wq BK ?_;refine Wq AO ?_;refine Wm ?_;refine Wg AL ?_;refine Wg AL ?_;refine Wg AL ?_;refine Wg (AJ (Z)) ?_;refine Wg AO ?_;refine Wg Ck ?_;refine Wq BT ?_;refine Wm ?_;refine Wg AL ?_;refine Wg AL ?_;refine Wg BK ?_;refine Wg Bc ?_;refine Wg AL ?_;refine Wg AL ?_;refine Wg AL ?_;refine Wg Dp ?_;refine Wg AT ?_;refine Wg AL ?_;refine Wg (AJ (f)) ?_;refine Wg Ck ?_;refine Wq BT ?_;refine Y0<|Cf<|Ys<|Y1<|Wm ?_;(refine Df rfl rfl ?_;refine Ml (Aa rfl) (Aa rfl) rfl rfl rfl rfl rfl ?_;refine⟨_,PartOk.one rfl (by exact CX),?_⟩;refine⟨_,rfl,?_⟩;refine⟨_,rfl,?_⟩);refine Wm<|Wm ?_;refine Wq NU ?_;refine Wq (Jp (ao rfl) rfl (Aa rfl) (Aa rfl) rfl ZcF ZcF) ?_;refine Wa<|Y0<|AWp.region<|Wm<|Wm<|Wm ?_;refine Wq (Md rfl (Aa rfl) (Aa rfl) rfl (ao rfl) (ao rfl) ZiB) ?_;refine Wm ?_;refine Wq (Jp (ao rfl) rfl (Aa rfl) (Aa rfl) rfl ZcF ZcF) ?_;refine Wa<|AWl.nil<|Bi<|Yn<|AWp.region<|Wm ?_;refine Wq CJ ?_;refine Wa<|AWl.nil ?_
        exact Zgg
      |false=>
       cases Y:Hg (O.getD (Fz p O) default) p with
       |true=>
        rw[Y]at f;have E:O=GH false O p:=by rw[GH,Yan (.inr (.inr ⟨u,Y⟩))]
        refine ZfB ?_;exact Ac ZcE Zcf
       |false=>
        rw[Y]at f;have E:O.take (Fz p O)++p::O.drop (Fz p O)=GH false O p:=by rw[GH,Yai (by rintro(h | ⟨h,V⟩ | ⟨h,V⟩);exact y h;cases h;(rw[Y]at V;cases V))]
        refine Ah<|Y1<|Wm<|Wm ?_;refine Wq BK ?_;refine Wq Bc ?_;refine Wm ?_;refine Wg AL ?_;refine Wg AL ?_;refine Wg Dp ?_;refine Wg AT ?_;refine Wg AL ?_;refine Wg (AJ (Q)) ?_;refine Wg AO ?_;refine Wq Ck ?_;refine Y0<|Cf<|Cg<|BD<|BS<|BI<|Yn<|Ah<|Y1<|Wm ?_;refine Wq BK ?_;refine Wq AO ?_;refine Wm ?_;refine Wg AL ?_;refine Wg AL ?_;refine Ws ?_;refine Ws ?_;refine Ws ?_;refine Wg BT ?_;refine Wq BT ?_;refine Wm ?_;refine Wg AL ?_;refine Wg AL ?_;refine Wg BK ?_;refine Wg Bc ?_;refine Wg AL ?_;refine Wg AL ?_;refine Wg AL ?_;refine Wg Dp ?_;refine Wg AT ?_;refine Wg AL ?_;refine Wg (AJ (f)) ?_;refine Wg Ck ?_;refine Wq BT ?_;refine Y0<|Cf<|Ys<|Y1<|Wm ?_;(refine Df rfl rfl ?_;refine Ml (Aa rfl) (Aa rfl) rfl rfl rfl rfl rfl ?_;refine⟨_,PartOk.one rfl (by exact CX),?_⟩;refine⟨_,rfl,?_⟩;refine⟨_,rfl,?_⟩);refine Wm<|Wm ?_;refine Wq NU ?_;refine Wq (Jp (ao rfl) rfl (Aa rfl) (Aa rfl) rfl ZcF ZcF) ?_;refine Wa<|Y0<|AWp.region<|Wm<|Wm<|Wm ?_;refine Wq (Md rfl (Aa rfl) (Aa rfl) rfl (ao rfl) (ao rfl) ZiB) ?_;refine Wm ?_;refine Wq (Jp (ao rfl) rfl (Aa rfl) (Aa rfl) rfl ZcF ZcF) ?_;refine Wa<|AWl.nil<|Bi<|Yn<|AWp.region<|Wm ?_;refine Wq CJ ?_;refine Wa<|AWl.nil ?_
        exact Zgg
     .by_cases y:p.length=0
      .exact Zbu
      cases plain with
      |true=>
       by_cases o:HU p=0
       .exact Zbv
       have E:O.take (Fz p O)++p::O.drop (Fz p O)=GH true O p:=by rw[GH,Yai (by rintro(h | ⟨h,V⟩ | ⟨h,V⟩);exact y h;exact o V;exact u h)]
       refine Ah<|Y1<|Wm<|Wm ?_;refine Wq BK ?_;refine Wq AO ?_;refine Wm ?_;refine Ws ?_;refine Ws ?_;refine Ws ?_;refine Ws ?_;refine Ws ?_;refine Ws ?_;refine Ws ?_;refine Wq BT ?_;refine Y0<|Cf<|Cg<|BD<|BS<|BI<|Yn<|Ah<|Y1<|Wm ?_;refine Wq BK ?_;refine Wq AO ?_;refine Wm ?_;refine Wg AL ?_;refine Wg AL ?_;refine Wg AL ?_;refine Wg (AJ (Z)) ?_;refine Wg AO ?_;refine Wg Ck ?_;refine Wq BT ?_;refine Wm ?_;refine Wg AL ?_;refine Wg AL ?_;refine Wg BK ?_;refine Wg AO ?_;refine Wg AL ?_;refine Ws ?_;refine Ws ?_;refine Ws ?_;refine Ws ?_;refine Ws ?_;refine Ws ?_;refine Wg BT ?_;refine Wq BT ?_;refine Y0<|Cf<|Ys<|Y1<|Wm ?_;(refine Df rfl rfl ?_;refine Ml (Aa rfl) (Aa rfl) rfl rfl rfl rfl rfl ?_;refine⟨_,PartOk.one rfl (by exact CX),?_⟩;refine⟨_,rfl,?_⟩;refine⟨_,rfl,?_⟩);refine Wm<|Wm ?_;refine Wq NU ?_;refine Wq (Jp (ao rfl) rfl (Aa rfl) (Aa rfl) rfl ZcF ZcF) ?_;refine Wa<|Y0<|AWp.region<|Wm<|Wm<|Wm ?_;refine Wq (Md rfl (Aa rfl) (Aa rfl) rfl (ao rfl) (ao rfl) ZiB) ?_;refine Wm ?_;refine Wq (Jp (ao rfl) rfl (Aa rfl) (Aa rfl) rfl ZcF ZcF) ?_;refine Wa<|AWl.nil<|Bi<|Yn<|AWp.region<|Wm ?_;refine Wq CJ ?_;refine Wa<|AWl.nil ?_
       exact Zgg
      |false=>
       have E:O.take (Fz p O)++p::O.drop (Fz p O)=GH false O p:=by rw[GH,Yai (by rintro(h | ⟨h,V⟩ | ⟨h,V⟩);exact y h;cases h;exact u h)]
       refine Ah<|Y1<|Wm<|Wm ?_;refine Wq BK ?_;refine Wq AO ?_;refine Wm ?_;refine Ws ?_;refine Ws ?_;refine Ws ?_;refine Ws ?_;refine Ws ?_;refine Ws ?_;refine Ws ?_;refine Wq BT ?_;refine Y0<|Cf<|Cg<|BD<|BS<|BI<|Yn<|Ah<|Y1<|Wm ?_;refine Wq BK ?_;refine Wq AO ?_;refine Wm ?_;refine Wg AL ?_;refine Wg AL ?_;refine Ws ?_;refine Ws ?_;refine Ws ?_;refine Wg BT ?_;refine Wq BT ?_;refine Wm ?_;refine Wg AL ?_;refine Wg AL ?_;refine Wg BK ?_;refine Wg AO ?_;refine Wg AL ?_;refine Ws ?_;refine Ws ?_;refine Ws ?_;refine Ws ?_;refine Ws ?_;refine Ws ?_;refine Wg BT ?_;refine Wq BT ?_;refine Y0<|Cf<|Ys<|Y1<|Wm ?_;(refine Df rfl rfl ?_;refine Ml (Aa rfl) (Aa rfl) rfl rfl rfl rfl rfl ?_;refine⟨_,PartOk.one rfl (by exact CX),?_⟩;refine⟨_,rfl,?_⟩;refine⟨_,rfl,?_⟩);refine Wm<|Wm ?_;refine Wq NU ?_;refine Wq (Jp (ao rfl) rfl (Aa rfl) (Aa rfl) rfl ZcF ZcF) ?_;refine Wa<|Y0<|AWp.region<|Wm<|Wm<|Wm ?_;refine Wq (Md rfl (Aa rfl) (Aa rfl) rfl (ao rfl) (ao rfl) ZiB) ?_;refine Wm ?_;refine Wq (Jp (ao rfl) rfl (Aa rfl) (Aa rfl) rfl ZcF ZcF) ?_;refine Wa<|AWl.nil<|Bi<|Yn<|AWp.region<|Wm ?_;refine Wq CJ ?_;refine Wa<|AWl.nil ?_
       exact Zgg
  .obtain rfl:k=L.length:=by omega
   exact Zfx
section
variable {P:Program} {hp:List Ow} {arg:Operand->AV} {dd:Option Tmp} {ty:TypeId} {ps:String} {af:Array Edge} {gd:Option (Nat×Bool)}
theorem A2B{k:IntKind}{a b r:Int}(C:arg x=.d (ex (.int k a)))(N:arg y=.d (ex (.int k b)))(V:Min.min a b=r):Quiet P hp ⟨dd,.call { callee:=.builtin .min,args:=#[x,y],argTypes:=vs },ty,ps,af,gd⟩ arg (.d (ex (.int k r))):=V▸WQ C N
theorem A8g{q n b g A T s i j:Nat}{d:TypeDesc}{f:e->List D}{l:List e}(C:HV hp (arg x)=some (slD T s (l.map f)))(N:arg y=.d (ex (.int .i64 (i:Nat))))(o:arg vS=.d (ex (.int .i64 (j:Nat))))(L:Tab P t (.slice q) n b z)(a:Tab P q d g A u)(B:g=s)(hi:i<=j)(W:j<=l.length):Quiet P hp ⟨dd,.slice t x (some y) (some vS) none,ty,ps,af,gd⟩ arg (.d (slD T s (((l.take j).drop i).map f))):=by
 have h:=A6x (P:=P) (hp:=hp) (arg:=arg) (dd:=dd) (ty:=ty) (ps:=ps) (af:=af) (gd:=gd) (lo:=some y) (hi:=some vS) (i:=(i:Nat)) (j:=(j:Nat)) C L a B (.inl ⟨y,rfl,N⟩) (.inl ⟨vS,rfl,o⟩) ZbG ZbG (by rw[Yap];omega);rw[show((j:Nat):Int).toNat=j from rfl,show((i:Nat):Int).toNat=i from rfl,<-YdV,<-YdU]at h;exact h
end
def nK(L:List (Nat×List (Nat->Int)))(V:List Int):Nat:=min (AZ L).length (1+AR V 0%2).toNat
noncomputable def GM (L:List (Nat×List (Nat->Int))) (V:List Int):Cor:=
 ⟨2,rQ (Ju false ((AZ L).take (nK L V))),rQ (Ju true (((AZ L).take (min (AZ L).length (nK L V+1))).drop (nK L V)))⟩
theorem WV(T o:Nat)(A:Nat)(L:List (Nat×List (Nat->Int)))(m:Tx L)(V:List Int)(d:I8 V)(I:V.length<=9223372036854775807):Abs prog 23 [AQ (Hh T o A L V)] (AQ (Ec (GM L V))):=by
 have t:=EA T L m;have K:=CH o V d 0 ZbL I;have b:=Vy L
 have k:(AZ L).length<=6:=by
  exact ZhV
 have q:=Cj d 0;rw[show Ec (GM L V)=[ex (.int .i64 2),Ba (Ju false ((AZ L).take (nK L V))),Ba (Ju true (((AZ L).take (min (AZ L).length (nK L V+1))).drop (nK L V)))]by rw[EZ,EZ];rfl];obtain⟨n,h⟩:∃n,n=nK L V:=⟨_,rfl⟩;have B:((n:Nat):Int)=min (((AZ L).length:Nat):Int) (1+AR V 0%2):=by rw[h,nK];omega
 have s:n<=(AZ L).length:=by omega
 rw[<-h];obtain⟨Q,i⟩:∃Q,Q=AZ L:=⟨_,rfl⟩;rw[<-i]at t b k B s ⊢;clear i h;have R:=SS (Q.take n) false (λP M=>b P (Ybs M)) ZgP;have C:=SS ((Q.take (min Q.length (n+1))).drop n) true (λP M=>b P (Ybs (Yci M))) ZeW;refine Ab func23 λw=>?_;rw[ntmps23];refine Go ?_;refine Wq (Ez 1 rfl rfl ZbG) ?_;refine Wq WF ?_;refine Wq (A2B (r:=((n:Nat):Int)) (ao rfl) (ao rfl) ZbG) ?_;refine Go ?_;refine Dy 14 ?_;refine Xq AL ?_;refine Xq AL ?_;refine Xq (Od rfl rfl (Aa rfl) (Aa rfl) rfl s) ?_;refine Xq (AJ (R)) ?_;refine Xq AL ?_;refine Xq AL ?_;refine Xq AL ?_;refine Xq BK ?_;refine Xq AL ?_;refine Xq CJ ?_;refine Xq (A2B (r:=((min Q.length (n+1):Nat):Int)) rfl rfl ZbG) ?_;refine Xq (A8g rfl rfl rfl (Aa rfl) (Aa rfl) rfl ZbG ZbG) ?_;refine Xq (AJ (C)) ?_;(refine Hq rfl ?_;refine AI (Aa rfl) rfl rfl rfl ?_;(repeat ((first | refine⟨_,Az (ah rfl),?_⟩ | refine⟨_,Po rfl,?_⟩);refine⟨_,rfl,?_⟩));refine⟨_,rfl,?_⟩;refine⟨_,rfl,?_⟩);refine⟨_,rfl,?_⟩;exact ZfC
section
variable {P:Program} {hp:List Ow} {arg:Operand->AV} {dd:Option Tmp} {ty:TypeId} {ps:String} {af:Array Edge} {gd:Option (Nat×Bool)}
theorem A8f{T U:TypeId}{a b c:Nat}(C:arg x=.d (ex (.int .i64 (a:Nat))))(N:arg y=.d (ex (.int .i64 (b:Nat))))(F:a*b=c)(h:c<=1000000):Quiet P hp ⟨dd,.binOp .mul T x y U,ty,ps,af,gd⟩ arg (.d (ex (.int .i64 (c:Nat)))):=by
 subst F;have e:((a:Int)*(b:Int))=((a*b:Nat):Int):=by simp
 have V:=WP (P:=P) (hp:=hp) (dd:=dd) (ty:=ty) (ps:=ps) (af:=af) (gd:=gd) (T:=T) (U:=U) C N (by rw[e];omega) (by rw[e];omega);rw[e]at V;exact V
end
def Fv(L:List (List (List Tm))):D:=slD 24 1 (L.map λQ=>[Ba Q])
theorem Ng(L:List (List (List Tm))):Fv L=Tu (L.map rQ):=by
 unfold Fv Tu;rw[Yce];congr 1;exact YaY λQ _=>by rw[EZ];rfl
def Gw(Q:List (List Tm))(c k:Nat):List (List (List Tm)):=(List.range k).map λi=>pQ Q (i*c) c
theorem JM(Q:List (List Tm))(r c:Nat)(V:r<=100)(q:c<=100)(I:Q.length<=9223372036854775807):Abs prog 114 [Ba Q,ex (.int .i64 (r:Nat)),ex (.int .i64 (c:Nat))] (Fv (Gw Q c r)):=by
 obtain⟨F,hF⟩:∃F:Nat->List (List Tm),F=λi=>pQ Q (i*c) c:=⟨_,rfl⟩;rw[show Gw Q c r=(List.range r).map F by rw[hF];rfl];have X:∀k,(List.range (k+1)).map F=(List.range k).map F++[F k]:=λk=>by rw[Ycv,Ych];rfl
 refine Ab func114 λw=>?_;rw[ntmps114];refine Go ?_;refine AF (λv A=>∃k,k<=r/\v=r-k/\A=⟨[(0,.d (Ba Q)),(1,.d (ex (.int .i64 (r:Nat)))),(2,.d (ex (.int .i64 (c:Nat)))),(7,.own 0),(8,.d (ex (.int .i64 (k:Nat))))],[.row 24 1 (((List.range k).map F).map λP=>[Ba P])]⟩) ?le ⟨0,by omega,rfl,rfl⟩ ?round
 case le=>exact Ac ZcT Zdz
 case round=>
  rintro v _ ⟨k,B,rfl,rfl⟩;by_cases O:k<r
  .have e:k*c<=10000:=Yat (YaX (show k<=100 by omega) q) ZbL
   have t:Abs prog 62 [Ba Q,ex (.int .i64 ((k*c:Nat):Int)),ex (.int .i64 (c:Nat))] (Ba (F k)):=by
    rw[hF];exact Ev Q (k*c) c ZbG ZbG I
   refine Ah<|Y1<|Wm<|Wm ?_;refine Wq Bc ?_;refine Y0<|Ct<|Ys<|Ah<|AWp.block<|AWp.region<|Wm<|Wm<|Wm<|Wm ?_;refine Wq (A8f (c:=k*c) (ao rfl) (ao rfl) rfl ZbG) ?_;refine Wm ?_;refine Wq (AJ (t)) ?_;(refine Df rfl rfl ?_;(refine DG (Aa rfl) (Aa rfl) rfl rfl rfl rfl rfl ?_;(repeat ((first | refine⟨_,Az (ao rfl),?_⟩ | refine⟨_,Po rfl,?_⟩);refine⟨_,rfl,?_⟩));refine⟨_,rfl,?_⟩));(refine EB (ao rfl) rfl rfl (Aa rfl) (Aa rfl) rfl rfl ZcF ZcF rfl ZbM rfl ?_);refine Wa<|AWl.nil<|Bi<|Yn<|AWp.region<|Wm ?_;refine Wq CJ ?_;refine Wa<|AWl.nil ?_
   refine Ai (r-(k+1)) ZbG ⟨k+1,by omega,rfl,rfl⟩ ?_;exact Ac ZcT (by(refine HpLe.cons (OwLe.row (by rw[X,Ych];rfl)) ?_);exact HpLe.nil)
  .obtain rfl:k=r:=by omega
   exact Zfx
def QH(Q:List Rat):D:=slD 111 4 (Q.map DB)
theorem A52(Q:List Rat):QH Q=GY (Q.map LK):=by
 unfold QH GY;rw[Yce];rfl
def Vg(Q:List Rat):Nat->Nat
 |0=>0
 |n+1=>if Q.getD n default=0 then Vg Q n else n+1
theorem A4B(Q:List Rat):∀n,Vg Q n<=n
 |0=>Yah 0
 |n+1=>by
  unfold Vg;have:=A4B Q n;split<;>omega
theorem A3z(Q:List Rat)(N:Q.length<=100000):Abs prog 217 [QH Q] (QH (Q.take (Vg Q Q.length))):=by
 refine Ab func217 λw=>?_;rw[ntmps217];refine Go ?_;refine AF (λv c=>∃M,M<=Q.length/\Vg Q M=Vg Q Q.length/\v=M/\c=⟨[(0,.d (QH Q)),(3,.d (ex (.int .i64 (M:Nat))))],[]⟩) ?le ⟨Q.length,Yah _,rfl,rfl,rfl⟩ ?round
 case le=>exact Ac (by exact Yd<|Yd<|FrLe.nil) Zcf
 case round=>
  rintro v _ ⟨M,q,L,rfl,rfl⟩;by_cases d:v=0
  .have s:Vg Q Q.length=v:=by rw [<-L, d];rfl
   rw[s];exact Zfx
  .have O:v-1<Q.length:=by omega
   have m:1<=v:=by omega
   have b:v=(v-1)+1:=by omega
   have f:=Gm (Q.getD (v-1) default);by_cases u:Q.getD (v-1) default=0
   .have R:(Q.getD (v-1) default).num.sign=0:=DI.2 u
    have A:Vg Q (v-1)=Vg Q Q.length:=by rw[<-L,b,Vg,YbX,Yan u]
    refine Go ?_;refine Ai (v-1) ZbG ⟨v-1,by omega,A,rfl,rfl⟩ ?_;exact Ac (by exact Yd<|Yd<|FrLe.nil) Zcf
   .have R:¬(Q.getD (v-1) default).num.sign=0:=λh=>u (DI.1 h)
    have A:Vg Q Q.length=v:=by rw[<-L,b,Vg,Yai u]
    rw[A];exact Zfx
def Tv(V:List Int)(n:Nat):List Rat:=(V.take (n+1)).map λz:Int=>(z:Rat)
def KA(V:List Int)(n:Nat):List Rat:=(Tv V n).take (Vg (Tv V n) (Tv V n).length)
theorem Mb(T:Nat)(V:List Int)(d:I8 V)(n:Nat)(h:n<=100)(I:V.length<=9223372036854775807):Abs prog 116 [Ov T V,ex (.int .i64 (n:Nat))] (QH (KA V n)):=by
 have p:∀k,k<V.length->((V.take (k+1)).map λz:Int=>(z:Rat)).map DB=((V.take k).map λz:Int=>(z:Rat)).map DB++[DB ((V.getD k default:Int):Rat)]:=λk B=>by
  rw[YcT,Ych,Ych,Yab,Yac B];rfl
 have g:=A3z (Tv V n) (by rw[Tv,Yap,YaO];omega);have q:V.take (min V.length (n+1))=V.take (n+1):=by rw[Nat.min_comm,<-List.take_eq_take_min]
 refine Ab func116 λw=>?_;rw[ntmps116];refine Go ?_;refine AF (λv c=>∃k,k<=min V.length (n+1)/\v=min V.length (n+1)-k/\c=⟨[(0,.d (Ov T V)),(1,.d (ex (.int .i64 (n:Nat)))),(5,.own 0),(6,.d (ex (.int .i64 (k:Nat))))],[.row 111 4 (((V.take k).map λz:Int=>(z:Rat)).map DB)]⟩) ?le ⟨0,by omega,rfl,rfl⟩ ?round
 case le=>exact Ac ZeB Zdz
 case round=>
  rintro v _ ⟨k,B,rfl,rfl⟩;by_cases O:k<min V.length (n+1)
  .have A:k<V.length:=by omega
   have u:-128<=V.getD k default/\V.getD k default<=127:=d _ (by rw[Yab,Yac A];exact Ybm _);have E:=EW (V.getD k default) ZbG ZbG;refine Ah<|Y1<|Wm<|Wm ?_;refine Wq BK ?_;refine Wq Bc ?_;refine Wm ?_;refine Wg AL ?_;refine Wg AL ?_;refine Wg Bc ?_;refine Wq Ck ?_;refine Y0<|Ct<|Ys<|Ah<|AWp.block<|AWp.region<|Wm<|Wm<|Wm ?_;refine Wq Dp ?_;refine Wq AT ?_;refine Wq (GB (ao rfl) (Aa rfl) (Aa rfl) ZbG ZbG) ?_;refine Wq (AJ (E)) ?_;refine Wq (Cc (ao rfl) (Aa rfl) (Aa rfl) rfl rfl rfl rfl rfl) ?_;(refine Ap ?_);refine Wa<|AWl.nil<|Bi<|Yn<|AWp.region<|Wm ?_;refine Wq CJ ?_;refine Wa<|AWl.nil ?_
   refine Ai (min V.length (n+1)-(k+1)) ZbG ⟨k+1,by omega,rfl,rfl⟩ ?_;exact Ac ZeB (by exact HpLe.cons (OwLe.row (p k A).symm)<|HpLe.nil)
  .have b:((V.take k).map λz:Int=>(z:Rat))=Tv V n:=by
    rw[Tv];congr 1;rw[show k=min V.length (n+1)by omega,q]
   rw[b];by_cases A:k<V.length
   .obtain rfl:k=min V.length (n+1):=by omega
    refine Ah<|Y1<|Wm<|Wm ?_;refine Wq BK ?_;refine Wq Bc ?_;refine Wm ?_;refine Wg AL ?_;refine Wg AL ?_;refine Wg AO ?_;refine Wq Ck ?_;refine Y0<|Cf<|Cg<|BD<|BS<|BI<|Yn<|Y1<|Wm ?_
    refine Bk (σ':=⟨[(28,.d (QH (Tv V n)))],[]⟩) ?wk1 ?_
    case wk1=>exact Ac ZeH Zcf
    refine Go ?_;exact Yf
   .obtain rfl:k=min V.length (n+1):=by omega
    refine Ah<|Y1<|Wm<|Wm ?_;refine Wq BK ?_;refine Wq AO ?_;refine Wm ?_;refine Ws ?_;refine Ws ?_;refine Ws ?_;refine Wq BT ?_;refine Y0<|Cf<|Cg<|BD<|BS<|BI<|Yn<|Y1<|Wm ?_
    refine Bk (σ':=⟨[(28,.d (QH (Tv V n)))],[]⟩) ?wk2 ?_
    case wk2=>exact Ac ZeH Zcf
    refine Go ?_;exact Yf
abbrev Aq:D:=ex (.slice none 0 0)
abbrev i0D:D:=ex (.int .i64 0)
abbrev EI(n:Int)(I g o c q s a J x b:D):List D:=[ex (.int .i64 n),I,g,o,c,q,s,i0D,i0D,i0D,i0D,i0D,i0D,i0D,i0D,Aq,Aq,Aq,Aq,Aq,Aq,Aq,Aq,Aq,a,J,x,b]
theorem AaN(h:n<=3):IntKind.i64.wrap ((n:Int)*((n:Int)-1))=((n*(n-1):Nat):Int):=by
 rcases(by omega:n=0\/n=1\/n=2\/n=3)with rfl | rfl | rfl | rfl<;>rfl
theorem A8C(n:Nat)(h:n<=1000):IntKind.i64.wrap (((n:Nat):Int).tdiv 2)=((n/2:Nat):Int):=by
 rw[YbU ZbG];have e:((n:Nat):Int)/2=((n/2:Nat):Int):=by omega
 rw[e];exact Zgf
theorem A4r{z r:Int}(h:z=r)(A:0<=r/\r<=1000000):IntKind.i64.wrap z=r:=by
 subst h;exact Zgf
theorem AaM(N:j=(n:Int))(h:a=(n:Int)+1)(F:n<=12):IntKind.i64.wrap (j*a)=((n*(n+1):Nat):Int):=by
 subst N;have A:n*(n+1)<=12*13:=YaX F ZbG;refine A4r ?_ ZbG;rw[h];simp
theorem A4x(h:n<256):IntKind.u8.wrap ((n:Nat):Int)=((n:Nat):Int):=by
 rw[A4z];omega
theorem A0I(Q:List (List Tm))(g m:Nat)(T:g<=3)(x:m<=100)(I:Q.length<=9223372036854775807):Abs prog 115 [AQ (EI 0 Aq Aq Aq Aq Aq Aq Aq Aq Aq Aq),Ba Q,ex (.int .i64 (g:Nat)),ex (.int .i64 (m:Nat)),ex (.bool false)] (AQ (EI 0 Aq (Ba (pQ Q 0 g)) (Du (CS g)) (Fv (Gw Q m g)) Aq Aq Aq Aq Aq Aq)):=by
 have t:=Ev Q 0 g ZbL ZbG I;have f:=Pq g ZbG;have q:=JM Q g m ZbG x I;refine Ab func115 λw=>?_;rw[ntmps115];apply Y1;refine Bx ?_;refine Al ?_;refine Y0<|Y1<|Wm<|Wm ?_;refine Wq (AJ (t)) ?_;refine Wm ?_;refine Wq (AP (r:=((g:Nat):Int)) (ao rfl) (Aa rfl) (Aa rfl) (A4x ZbG)) ?_;refine Wq (AJ (f)) ?_;refine Wm<|Wm<|Wm ?_;refine Wq (AJ (q)) ?_;refine Wq AC ?_;refine De (ao rfl) (ao rfl) rfl (Aa rfl) ZbX rfl rfl ?_;refine Wq AC ?_;refine De (ao rfl) (ao rfl) rfl (Aa rfl) ZbX rfl rfl ?_;refine Wq AC ?_;refine De (ao rfl) (ao rfl) rfl (Aa rfl) ZbX rfl rfl ?_;refine Y0<|Ah<|Y1<|Wm<|Y0<|Cf<|Ys<|Y1 ?_;refine Wq AD ?_;refine Sf ?_;refine Y0<|BV ?_
 exact Zka
theorem MT(Q:List (List Tm))(g m:Nat)(T:g<=3)(x:m<=100)(I:Q.length<=9223372036854775807):Abs prog 115 [AQ (EI 0 Aq Aq Aq Aq Aq Aq Aq Aq Aq Aq),Ba Q,ex (.int .i64 (g:Nat)),ex (.int .i64 (m:Nat)),ex (.bool true)] (AQ (EI 0 Aq (Ba (pQ Q 0 g)) (Du (CS g)) (Fv (Gw Q m g)) (Fv (Gw Q g m)) (Fv (Gw Q g (g*(g-1)/2))) Aq Aq Aq Aq)):=by
 have t:=Ev Q 0 g ZbL ZbG I;have f:=Pq g ZbG;have q:=JM Q g m ZbG x I;have M:=JM Q m g x ZbG I;have h:g*(g-1)<=3*3:=YaX T (show g-1<=3 by omega);have A:=JM Q (g*(g-1)/2) g ZbG ZbG I;refine Ab func115 λw=>?_;rw[ntmps115];apply Y1;refine Bx ?_;refine Al ?_;refine Y0<|Y1<|Wm<|Wm ?_;refine Wq (AJ (t)) ?_;refine Wm ?_;refine Wq (AP (r:=((g:Nat):Int)) (ao rfl) (Aa rfl) (Aa rfl) (A4x ZbG)) ?_;refine Wq (AJ (f)) ?_;refine Wm<|Wm<|Wm ?_;refine Wq (AJ (q)) ?_;refine Wq AC ?_;refine De (ao rfl) (ao rfl) rfl (Aa rfl) ZbX rfl rfl ?_;refine Wq AC ?_;refine De (ao rfl) (ao rfl) rfl (Aa rfl) ZbX rfl rfl ?_;refine Wq AC ?_;refine De (ao rfl) (ao rfl) rfl (Aa rfl) ZbX rfl rfl ?_;refine Y0<|Ah<|Y1<|Wm<|Y0<|Ct<|AWp.region<|Wm<|Wm<|Wm ?_;refine Wq (AJ (M)) ?_;refine Wm<|Wm<|Wm ?_;refine Wq A0X ?_;refine Wq (GV (r:=((g*(g-1):Nat):Int)) (ao rfl) (ao rfl) (AaN T)) ?_;refine Wq (GU (r:=((g*(g-1)/2:Nat):Int)) (ao rfl) (ao rfl) ZbL (A8C _ ZbG)) ?_;refine Wm ?_;refine Wq (AJ (A)) ?_;refine Wq AC ?_;refine De (ao rfl) (ao rfl) rfl (Aa rfl) ZbX rfl rfl ?_;refine Wq AC ?_;refine De (ao rfl) (ao rfl) rfl (Aa rfl) ZbX rfl rfl ?_;refine Y0<|Y1 ?_;refine Wq AD ?_;refine Sf ?_;refine Y0<|BV ?_
 exact Zka
end
