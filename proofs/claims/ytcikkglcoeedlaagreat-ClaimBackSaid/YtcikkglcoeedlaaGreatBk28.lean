/- Part 28. No condition. -/
import Derived.Test.YtcikkglcoeedlaaGreatBk18
import Derived.Test.YtcikkglcoeedlaaGreatBk19
import Derived.Test.YtcikkglcoeedlaaGreatBk20
import Derived.Test.YtcikkglcoeedlaaGreatBk21
import Derived.Test.YtcikkglcoeedlaaGreatBk22
import Derived.Test.YtcikkglcoeedlaaGreatBk24
import Derived.Test.YtcikkglcoeedlaaGreatBk25
import Derived.Test.YtcikkglcoeedlaaGreatBk27
set_option linter.unusedSimpArgs false
set_option linter.unusedVariables false
set_option maxRecDepth 100000
set_option maxHeartbeats 4000000
namespace Go.Proofs.YtcikkglcoeedlaaGreat
open _root_.Go.Proofs.Tryz
variable{vt:Array TypeId}{p:Bool}{r vw uq:D}{a j uA uH:Int}{vM:List (List Tm)}{vb uh:List Tm}{n:Nat}{x y vS:Operand}{e:Type}{t:TypeId}{z u:Value}
section
open Go.RowKit
def A4O(l:List Int)(j:Nat):Int:=l.getD j 0
def CS(z:Nat):List (Nat->Int):=
 if z%8=0 then[]else if z%8=1 then[BW 255]else if z%8=2\/z%8=3 then revRows else if z%8=4 then[A4O [2,3,1,1,1,1,1,1]]else if z%8=5 then[A4O [1,1,0,0,0,0,0,0],A4O [1,0,2,1,1,1,1,1]]else BW (z/8%16)::revRows
theorem A8X(h:n<256):IntKind.u8.wrap (n:Int)=n:=by
 exact Zgd
theorem Ab1(z:Nat)(o:z<256):IntKind.u8.wrap (((z:Nat):Int).tdiv 8)=((z/8:Nat):Int):=by
 rw[show((z:Nat):Int).tdiv 8=((z/8:Nat):Int)by rw[YbS ZbD];omega];exact A8X ZbD
theorem Pc(z:Nat)(o:z<256):Abs prog 63 [ex (.int .u8 (z:Nat))] (Ep (CS z)):=by
 have u:=Pe (z/8%16) ZbD;refine Ab func63 λv=>?_;rw[ntmps63];by_cases c:z%8=0
 .have w:=A6a;refine Go ?_
  exact AA (Am (ResV.tmp rfl rfl) (Ae (by simp[CS,c])))
 by_cases A:z%8=1
 .have C:=YY;refine Go ?_
  exact AA (Am (ResV.tmp rfl rfl) (Ae (by simp[CS,A])))
 by_cases B:z%8=2
 .have i:=NM;refine Go ?_
  exact AA (Am (ResV.tmp rfl rfl) (Ae (by simp[CS,B])))
 by_cases L:z%8=3
 .refine Y1<|Wa<|Y0<|Ai<|Y1<|Wm ?_;refine Wq A6d ?_;refine Y0<|AWp.block<|Y1 ?_;refine Wq AN ?_;refine Wa<|Y0<|Cf<|Y1 ?_;refine Wq AN ?_;refine Wa<|Y0<|Cf<|Ai<|Y1 ?_;refine Wq AN ?_;refine Wa<|Y0<|Cf<|AWp.region ?_;refine Wq Bb ?_;refine Wa<|Y0<|Ct<|Y1 ?_;refine Wq (AK (NM)) ?_;refine Wa<|Y0<|BV<|DU<|Ds ?_
  exact AA (Am (ResV.tmp rfl rfl) (Ae (by simp[CS,L])))
 by_cases S:z%8=4
 .refine Go ?_
  exact AA (Am (ResV.tmp rfl rfl) (Ae (by simp only[CS,S];rfl)))
 by_cases n:z%8=5
 .refine Go ?_
  exact AA (Am (ResV.tmp rfl rfl) (Ae (by simp only[CS,n];rfl)))
 refine Go ?_;refine Wq (GT (ao rfl) (ao rfl) ZbH (Ab1 z o)) ?_;refine Go ?_;exact AA (Am (ResV.tmp rfl rfl) (Ae (by simp[CS,c,A,B,L,S,n])))
theorem DE(a:Int){j:Nat}(C:j<=7):IntKind.i64.wrap (((BitVec.ofInt 64 a &&& BitVec.ofInt 64 ((2^j-1:Nat):Int)).toNat:Nat):Int)=a%((2^j:Nat):Int):=by
 have A:(BitVec.ofInt 64 ((2^j-1:Nat):Int)).toNat=2^j-1:=by
  rcases(show j=0\/j=1\/j=2\/j=3\/j=4\/j=5\/j=6\/j=7 by omega)with rfl | rfl | rfl | rfl | rfl | rfl | rfl | rfl<;>rfl
 rw[BitVec.toNat_and,A,BitVec.toNat_ofInt,YdJ]
 have B:∀x:Nat,x<128->IntKind.i64.wrap (x:Int)=x:=λx E=>by
  exact Zgd
 rcases(show j=0\/j=1\/j=2\/j=3\/j=4\/j=5\/j=6\/j=7 by omega)with rfl | rfl | rfl | rfl | rfl | rfl | rfl | rfl<;>(rw[B _ ZbD];omega)
section
variable {P:Program} {hp:List Ow} {arg:Operand->AV} {dd:Option Tmp} {ty:TypeId} {ps:String} {af:Array Edge} {gd:Option (Nat×Bool)} {T U:TypeId} {x y:Operand} {a b r:Int} {k:IntKind}
theorem Eo(E:arg x=.d (ex (.int k a)))(O:arg y=.d (ex (.int k b)))(X:k.wrap ((BitVec.ofInt k.bits a &&& BitVec.ofInt k.bits b).toNat)=r):Quiet P hp ⟨dd,.binOp .and T x y U,ty,ps,af,gd⟩ arg (.d (ex (.int k r))):=
 CN rfl E O λw=>by
  simp only[eqGuard,binOp,Op.intBits,X];simp[X]
theorem Ey(j:Nat)(E:arg x=.d (ex (.int .i64 a)))(O:arg y=.d (ex (.int .i64 ((2^j-1:Nat):Int))))(A:j<=7):Quiet P hp ⟨dd,.binOp .and T x y U,ty,ps,af,gd⟩ arg (.d (ex (.int .i64 (a%((2^j:Nat):Int))))):=
 Eo E O (DE a A)
end
theorem Ke(n d:Int)(A:-128<=n)(B:n<=127)(L:0<d)(S:d<=127):Abs prog 113 [AP [ex (.int .i8 n),ex (.int .i8 d),ex (.int .u8 0)]] (AP (DA (Rat.divInt n d))):=by
 have N:(As n.natAbs).length<=1:=by simpa using(Jr (x:=n) ZbD ZbD).1
 have O:(As d.natAbs).length<=1:=by simpa using(Jr (x:=d) ZbD ZbD).1
 have C:=Kt n ZbD ZbD;have E:=Kt d ZbD ZbD;have Z:=Kt 4611686018427387904 ZbH ZbH;have K:=NJ n d ZbD ZbD ZbD;refine Ab func113 λv=>?_;rw[ntmps113];refine Go ?_;refine Dy 10 ?_;exact Zjg
theorem VR(c:-128<=a)(A:a<=127):IntKind.i8.wrap a=a:=by
 exact Zgd
theorem A09{c:e->List D}{x d:Nat->e}:GL (ZH (λi=>c (if i<n then x i else d i)) n (c (x n)))=GL λi=>c (if i<n+1 then x i else d i):=by
 congr 1;funext i;unfold ZH;by_cases h:i=n
 .subst h
  simp
 .by_cases b:i<n
  .simp [h,b,show i<n+1 by omega]
  .simp [h,b,show¬i<n+1 by omega]
theorem NB{n d:Int}(A:-128<=n)(B:n<=127)(L:0<d)(S:d<=127):RSz (Rat.divInt n d) 2:=by
 rw[Yde,Rat.div_def]
 exact RSz.mul (Jr (x := n) ZbD ZbD : RSz ((n : Int) : Rat) 1) (A86 (Jr (x := d) ZbD ZbD : RSz ((d : Int) : Rat) 1) (by
  show(d:Rat).num≠0;rw[YeH];omega))
abbrev zI:RQ×RQ:=(LJ ((0:Int):Rat),LJ ((0:Int):Rat))
def loB(V:List Int)(k i:Nat):Rat:=Rat.divInt (AR V (k+i)) 3
def wiB(V:List Int)(k:Nat):Rat:=Rat.divInt (AR V k%8) 2
def ivB(V:List Int)(k i:Nat):RQ×RQ:=(LJ (loB V k i),LJ (loB V k i+wiB V k))
def Ee(V:List Int)(k:Nat)(i:Nat):RQ×RQ:=if i<2 then ivB V k i else zI
theorem Lp(T:Nat)(V:List Int)(e:I8 V)(J:V.length<=9223372036854775807)(m:Nat)(x:m<=1000):Abs prog 64 [Ol T V,ex (.int .i64 (m:Nat))] (AP (Dv (Ee V m))):=by
 have E:=EX 0 ZbH ZbH;have o:=Cj e m;have F:=CH T V e m ZbD J;have B:=Ke (AR V m%8) 2 ZbD ZbD ZbD ZbD;refine Ab func64 λv=>?_;rw[ntmps64];refine Go ?_;refine AC (λu d=>∃k,k<=8/\u=8-k/\d=⟨[(0,.d (Ol T V)),(1,.d (ex (.int .i64 (m:Nat)))),(4,.ptr 0 0),(5,.ptr 1 0),(6,.d (ex (.int .i64 (k:Nat))))],[.var 131 ((Dv λ_=>default).map .d),.var 131 ((GL λi=>Jf (if i<k then zI else default)).map .d)]⟩) ?le ⟨0,by omega,rfl,rfl⟩ ?round
 case le=>exact Ac ZdD (by exact HpLe.cons (Hp QO)<|HpLe.cons (Hp QO)<|HpLe.nil)
 case round=>
  rintro u _ ⟨k,C,rfl,rfl⟩;by_cases Q:k<8
  .refine Go ?_;refine Mj (ao rfl) (ao rfl) rfl (Aa rfl) rfl (Hm (λ_=>rfl) rfl Q) rfl ?_;refine Go ?_
   refine Ah (8-(k+1)) ZbD ⟨k+1,by omega,rfl,rfl⟩ ?_;exact Ac ZdD (by apply Yv;refine HpLe.cons (OwLe.varD (A09 (c:=Jf) (x:=λ_=>zI) (d:=λ_=>default))) ?_;exact HpLe.nil)
  .obtain rfl:k=8:=by omega
   refine Go ?_;refine AC (λu d=>∃k,k<=2/\u=2-k/\d=⟨[(0,.d (Ol T V)),(1,.d (ex (.int .i64 (m:Nat)))),(4,.ptr 0 0),(5,.ptr 1 0),(7,.d (ex (.int .i64 (k:Nat))))],[.var 131 ((Dv λ_=>default).map .d),.var 131 ((GL λi=>Jf (if i<k then ivB V m i else zI)).map .d)]⟩) ?le2 ⟨0,by omega,rfl,rfl⟩ ?round2
   case le2=>exact Ac ZdD Zcu
   case round2=>
    rintro u _ ⟨k,C,rfl,rfl⟩;by_cases Q:k<2
    .have l:=Cj e (m+k)
     have w:=CH T V e (m+k) ZbD J;have A:=Ke (AR V (m+k)) 3 ZbD ZbD ZbD ZbD;have R:=ON (loB V m k) (wiB V m) 2 2 (NB ZbD ZbD ZbD ZbD) (NB ZbD ZbD ZbD ZbD) ZbD;refine Ai<|Y1<|Wm ?_;refine Wq Bb ?_;refine Y0<|Ct<|Ys<|Ai<|AWp.block<|Y1<|Wm<|Wm<|Wm ?_;refine Wq Wn ?_;refine Wq (AK (w)) ?_;refine Wq (AO (ao rfl) (Aa rfl) (Aa rfl) (VR ZbD ZbD)) ?_;(refine De rfl rfl ?_;(refine AI (Aa rfl) rfl rfl rfl ?_;(repeat ((first | refine⟨_,Aw (ao rfl),?_⟩ | refine⟨_,Po rfl,?_⟩);refine⟨_,rfl,?_⟩));refine⟨_,rfl,?_⟩));refine Wq (AK (A)) ?_;refine Al ?_;refine Sf ?_;apply Y0
     refine Dy 13 ?_;refine DO ?_;refine Xq (Ey 3 rfl rfl ZbD) ?_;refine⟨_,HStep.q rfl (AO (ah rfl) (Aa rfl) (Aa rfl) (VR (a:=AR V m%8) ZbD ZbD)),?_⟩;refine DO ?_;refine Mj (ao rfl) (ao rfl) rfl (Aa rfl) rfl (Hm (i:=k) (v:=Jf (ivB V m k)) (λ_=>rfl) rfl ZbD) rfl ?_;refine ZgK ?_;exact Ac ZdD (by apply Yv;refine HpLe.cons (OwLe.varD (A09 (c:=Jf) (x:=ivB V m) (d:=λ_=>zI))) ?_;exact HpLe.nil)
    .obtain rfl:k=2:=by omega
     exact ZfA
def Kp(b kind n r m:Int):Int:=if b=5 then(if kind=6 then n else 0)else if b=8\/b=6 then(if kind=6 then r else if kind=7\/kind=8 then m else if kind=13 then n else 0)else 0
def Kq(b kind n r m:Int):Int:=if b=5 then(if kind=6\/kind=12 then n else -1)else if b=8\/b=6 then(if kind=6 then r else if kind=7\/kind=8 then m else if kind=9 then 0 else if kind=12 then n else -1)else -1
theorem A1p(B:Int)(q:D)(w:List (Nat->Int))(c:Clm)(F:c.b.length<=1000000) :
  Abs prog 25 [AP [ex (.int .i64 B),q,Ep w],AP (EE c)] (FY [ex (.int .i64 (Kp B c.kind c.n c.r (c.b.length:Nat))),ex (.int .i64 (Kq B c.kind c.n c.r (c.b.length:Nat)))]):=by
 obtain⟨kind,p,n,d,r,o,l,s,b⟩:=c;refine Ab func25 λv=>?_;rw[ntmps25];refine Go ?_;refine CL 0 2 rfl rfl rfl ?_;refine CL 1 3 rfl rfl rfl ?_;refine Go ?_;by_cases A:B=5
 .subst A
  by_cases X:kind=6
  .exact Zbm
  by_cases V:kind=12
  .exact Zbn
  exact Zhr
 by_cases a:B=8
 .subst a
  exact Zbo
 by_cases C:B=6
 .subst C
  exact Zbo
 exact Zhr
theorem A0o (a b c d : Int) (w : World) : (do eqGuard .eql 225 x y (.agg #[.int .i64 a, .int .i64 b]) (.agg #[.int .i64 c, .int .i64 d]); binOp .eql 225 (.agg #[.int .i64 a, .int .i64 b]) (.agg #[.int .i64 c, .int .i64 d]) : Sem Value).run prog w = .ok (.bool (a == c && b == d)) w := by
 rw [Sem.run_bind,run_eqGuard_agg (hm:=by kernel_rfl),Result.andThen_ok,run_eql_struct,run_equalIn_struct (ht:=by kernel_rfl) (hp:=by kernel_rfl)];have t : (Tryz.prog.fieldsOf 225).toList = [⟨"lo", 3, 0, false, "", "eliminant/claim", 0⟩, ⟨"hi", 3, 1, false, "", "eliminant/claim", 8⟩] := by kernel_rfl
 rw[t];simp[Op.eqFields,go_sem];by_cases A:a=c<;>by_cases B:b=d<;>simp[A,B]
theorem A7j (a b c d e f : Int) (w : World) : (do eqGuard .neq 222 x y (.agg #[.int .i64 a, .int .i64 b, .int .i64 c]) (.agg #[.int .i64 d, .int .i64 e, .int .i64 f]); binOp .neq 222 (.agg #[.int .i64 a, .int .i64 b, .int .i64 c]) (.agg #[.int .i64 d, .int .i64 e, .int .i64 f]) : Sem Value).run prog w = .ok (.bool (!(a == d && b == e && c == f))) w := by
 obtain⟨i,K⟩:∃i,Tryz.prog.info? 3=some i:=Ycw.1 ZbI;have A:=λW=>run_equalIn_array (P:=prog) W 9999 (t:=222) (e:=3) (n:=3) #[.int .i64 a,.int .i64 b,.int .i64 c] #[.int .i64 d,.int .i64 e,.int .i64 f] ZbI K;rw[Sem.run_bind,run_eqGuard_agg (hm:=by kernel_rfl),Result.andThen_ok,run_neq_struct,A];have X:(List.range 3)=[0,1,2]:=rfl;have C:Tryz.prog.cellsOf 3=1:=by kernel_rfl
 rw[X,C];simp[Op.eqItems,go_sem];by_cases A:a=d<;>by_cases B:b=e<;>by_cases L:c=f<;>simp[A,B,L]
abbrev in3(a b c:Int):List D:=[ex (.int .i64 a),ex (.int .i64 b),ex (.int .i64 c)]
abbrev in2(a b:Int):List D:=[ex (.int .i64 a),ex (.int .i64 b)]
section
variable {hp:List Ow} {arg:Operand->AV} {dd:Option Tmp} {ty:TypeId} {ps:String} {af:Array Edge} {gd:Option (Nat×Bool)}
theorem A3H(E:arg x=.d (AP (in2 a j)))(O:arg y=.d (AP (in2 uA uH))):Quiet prog hp ⟨dd,.binOp .eql 225 x y t,ty,ps,af,gd⟩ arg (.d (ex (.bool (a==uA&&j==uH)))):=
 IL rfl E O (λ_ _ h=>YN (l:=[.int .i64 a,.int .i64 j]) h) (λ_ _ h=>YN (l:=[.int .i64 uA,.int .i64 uH]) h) λw=>A0o a j uA uH w
theorem Aam{a b c d e f:Int}(E:arg x=.d (AP (in3 a b c)))(O:arg y=.d (AP (in3 d e f))):Quiet prog hp ⟨dd,.binOp .neq 222 x y t,ty,ps,af,gd⟩ arg (.d (ex (.bool (!(a==d&&b==e&&c==f))))):=
 IL rfl E O (λ_ _ h=>YN (l:=[.int .i64 a,.int .i64 b,.int .i64 c]) h) (λ_ _ h=>YN (l:=[.int .i64 d,.int .i64 e,.int .i64 f]) h) λw=>A7j a b c d e f w
end
theorem Uu(a b c d:Int):Abs prog 145 [AP (in2 a b),AP (in2 c d)] (ex (.bool (decide (b<c)||decide (d<a)))):=by
 refine Ab func145 λv=>?_;rw[ntmps145];apply Y1;refine Bx ?_;refine Bx ?_;refine Wa<|Y0 ?_;refine CL 0 2 rfl rfl rfl ?_;refine CL 1 3 rfl rfl rfl ?_;apply Y1;refine Wq AE ?_;refine Wq AT ?_;refine Wq AE ?_;refine Wq AT ?_;refine Wq Ci ?_;refine Wm ?_;refine Wv0 (λH=>AE) ?_;refine Wv1 11 rfl (λH=>AT) ?_;refine Wv0 (λH=>AE) ?_;refine Wv1 13 rfl (λH=>AT) ?_;refine Wv2 12 rfl 14 rfl (λH=>Ci) ?_;refine Wq NN ?_;refine Wa<|Y0<|BV ?_
 exact Yf
def MM(s:List Int)(v:Int):Nat:=s.countP λx=>x==v
theorem OY{s:List Int}(h:n<s.length)(v:Int):MM (s.take (n+1)) v=MM (s.take n) v+(if s.getD n default=v then 1 else 0):=by
 unfold MM;rw[YcO,List.countP_append,Yab,Yac h];simp[List.countP_cons]
theorem A7O(s:List Int)(v:Int):MM s v<=s.length:=List.countP_le_length
def Tb(I kind n d:Int):Int×Int:=if kind=6 then(n,n)else if kind=5 then(if 0<d then(I,I)else if d=0 then(n,n)else(0,0))else if kind=12 then(0,n)else if kind=7\/kind=8 then(0,I-1)else(0,I)
def Zz(I kind n r m:Int):Int×Int:=if kind=6 then(r,r)else if kind=7\/kind=8 then(m,m)else if kind=9 then(0,0)else if kind=13 then(n,I)else(0,I)
theorem Sv(c:Clm)(F:c.b.length<=1000000):Abs prog 143 [AP (EE c)] (AP (in2 (Tb 1073741824 c.kind c.n c.d).1 (Tb 1073741824 c.kind c.n c.d).2)):=by
 obtain⟨kind,p,n,d,r,o,l,s,b⟩:=c;rw[show EE ⟨kind,p,n,d,r,o,l,s,b⟩=[ex (.int .i64 kind),KD p,ex (.int .i64 n),ex (.int .i64 d),ex (.int .i64 r),Ep o,Ib l,Np s,Gb b]from rfl];refine Ab func143 λv=>?_;rw[ntmps143];refine Go ?_;refine CL 0 1 rfl rfl rfl ?_;refine Go ?_;by_cases X:kind=6
 .subst X
  exact ZfQ
 by_cases C:kind=5
 .subst C
  by_cases A:0<d
  .exact Zbp
  by_cases x:d=0
  .exact Zbp
  exact ZfQ
 by_cases V:kind=12
 .subst V
  exact ZfQ
 by_cases B:kind=7
 .subst B
  exact ZfQ
 by_cases W:kind=8
 .subst W
  exact ZfQ
 exact ZfQ
theorem Rt(c:Clm)(F:c.b.length<=1000000):Abs prog 144 [AP (EE c)] (AP (in2 (Zz 1073741824 c.kind c.n c.r (c.b.length:Nat)).1 (Zz 1073741824 c.kind c.n c.r (c.b.length:Nat)).2)):=by
 obtain⟨kind,p,n,d,r,o,l,s,b⟩:=c;rw[show EE ⟨kind,p,n,d,r,o,l,s,b⟩=[ex (.int .i64 kind),KD p,ex (.int .i64 n),ex (.int .i64 d),ex (.int .i64 r),Ep o,Ib l,Np s,Gb b]from rfl];refine Ab func144 λv=>?_;rw[ntmps144];refine Go ?_;refine CL 0 1 rfl rfl rfl ?_;refine Go ?_;by_cases X:kind=6
 .subst X
  exact ZfR
 by_cases A:kind=7
 .subst A
  exact ZfR
 by_cases W:kind=8
 .subst W
  exact ZfR
 by_cases B:kind=9
 .subst B
  exact ZfR
 by_cases w:kind=13
 .subst w
  exact ZfR
 exact ZfR
abbrev cn3(s:List Int):List D:=in3 (MM s (-1):Nat) (MM s 0:Nat) (MM s 1:Nat)
theorem Lj(s:List Int)(hs:s.length<=1000000):Abs prog 142 [Np s] (AP (cn3 s)):=by
 refine Ab func142 λs0=>?_
 rw [ntmps142]
 refine Go ?_
 refine AC (λmz σ=>∃k,k<=s.length/\mz=s.length-k/\σ=⟨[(2,.ptr 0 0),(3,.ptr 1 0),(6,.d (Np s)),(7,.d (ex (.int .i64 (s.length:Nat)))),(8,.d (ex (.int .i64 (k:Nat))))],[.var 222 ((in3 0 0 0).map .d),.var 222 ((cn3 (s.take k)).map .d)]⟩) ?le ⟨0,by omega,rfl,rfl⟩ ?round
 case le=>exact Ac (by exact Yp<|Yp<|Yd<|Yd<|Yd<|FrLe.nil) (by refine HpLe.cons (OwLe.cells (by repeat (first | exact CellsLe.nil | refine CellsLe.cons (AVle.d rfl) ?_ | refine CellsLe.cons (AVle.le AL) ?_))) ?_;refine HpLe.cons (OwLe.cells (by repeat (first | exact CellsLe.nil | refine CellsLe.cons (AVle.d rfl) ?_ | refine CellsLe.cons (AVle.le AL) ?_))) ?_;exact HpLe.nil)
 case round=>
  rintro mz _ ⟨k,hk,rfl,rfl⟩
  by_cases hlt:k<s.length
  .have hv:∀v:Int, MM (s.take k) v<=k:=λv=>Yat (A7O _ v) (by rw [YaO]; omega)
   have h1:=OY hlt (-1)
   have h2:=OY hlt 0
   have h3:=OY hlt 1
   have hv1:=hv (-1)
   have hv2:=hv 0
   have hv3:=hv 1
   by_cases g1:s.getD k default = -1
   .rw [g1] at h1 h2 h3
    simp at h1 h2 h3
    refine Go ?_
    rw [g1]
    refine Go ?_
    refine Ah (s.length-(k+1)) (by omega) ⟨k+1,by omega,rfl,rfl⟩ ?_
    exact Ac (by exact Yp<|Yp<|Yd<|Yd<|Yd<|FrLe.nil) (by refine HpLe.cons (OwLe.cells (CellsLe.cons (AVle.int (by omega)) (CellsLe.cons (AVle.int (by omega)) (CellsLe.cons (AVle.int (by omega)) CellsLe.nil)))) ?_;refine HpLe.cons (OwLe.cells (CellsLe.cons (AVle.int (by omega)) (CellsLe.cons (AVle.int (by omega)) (CellsLe.cons (AVle.int (by omega)) CellsLe.nil)))) ?_;exact HpLe.nil)
   by_cases g2:s.getD k default=0
   .rw [g2] at h1 h2 h3
    simp at h1 h2 h3
    refine Go ?_
    rw [g2]
    refine Go ?_
    refine Ah (s.length-(k+1)) (by omega) ⟨k+1,by omega,rfl,rfl⟩ ?_
    exact Ac (by exact Yp<|Yp<|Yd<|Yd<|Yd<|FrLe.nil) (by refine HpLe.cons (OwLe.cells (CellsLe.cons (AVle.int (by omega)) (CellsLe.cons (AVle.int (by omega)) (CellsLe.cons (AVle.int (by omega)) CellsLe.nil)))) ?_;refine HpLe.cons (OwLe.cells (CellsLe.cons (AVle.int (by omega)) (CellsLe.cons (AVle.int (by omega)) (CellsLe.cons (AVle.int (by omega)) CellsLe.nil)))) ?_;exact HpLe.nil)
   by_cases g3:s.getD k default=1
   .rw [g3] at h1 h2 h3
    simp at h1 h2 h3
    refine Go ?_
    rw [g3]
    refine Go ?_
    refine Ah (s.length-(k+1)) (by omega) ⟨k+1,by omega,rfl,rfl⟩ ?_
    exact Ac (by exact Yp<|Yp<|Yd<|Yd<|Yd<|FrLe.nil) (by refine HpLe.cons (OwLe.cells (CellsLe.cons (AVle.int (by omega)) (CellsLe.cons (AVle.int (by omega)) (CellsLe.cons (AVle.int (by omega)) CellsLe.nil)))) ?_;refine HpLe.cons (OwLe.cells (CellsLe.cons (AVle.int (by omega)) (CellsLe.cons (AVle.int (by omega)) (CellsLe.cons (AVle.int (by omega)) CellsLe.nil)))) ?_;exact HpLe.nil)
   rw [Yai g1] at h1
   rw [Yai g2] at h2
   rw [Yai g3] at h3
   by_cases g4:s.getD k default < -1
   .refine Go ?_
    refine Ah (s.length-(k+1)) (by omega) ⟨k+1,by omega,rfl,rfl⟩ ?_
    exact Ac (by exact Yp<|Yp<|Yd<|Yd<|Yd<|FrLe.nil) (by refine HpLe.cons (OwLe.cells (CellsLe.cons (AVle.int (by omega)) (CellsLe.cons (AVle.int (by omega)) (CellsLe.cons (AVle.int (by omega)) CellsLe.nil)))) ?_;refine HpLe.cons (OwLe.cells (CellsLe.cons (AVle.int (by omega)) (CellsLe.cons (AVle.int (by omega)) (CellsLe.cons (AVle.int (by omega)) CellsLe.nil)))) ?_;exact HpLe.nil)
   have g5:1<s.getD k default:=by omega
   refine Go ?_
   refine Ah (s.length-(k+1)) (by omega) ⟨k+1,by omega,rfl,rfl⟩ ?_
   exact Ac (by exact Yp<|Yp<|Yd<|Yd<|Yd<|FrLe.nil) (by refine HpLe.cons (OwLe.cells (CellsLe.cons (AVle.int (by omega)) (CellsLe.cons (AVle.int (by omega)) (CellsLe.cons (AVle.int (by omega)) CellsLe.nil)))) ?_;refine HpLe.cons (OwLe.cells (CellsLe.cons (AVle.int (by omega)) (CellsLe.cons (AVle.int (by omega)) (CellsLe.cons (AVle.int (by omega)) CellsLe.nil)))) ?_;exact HpLe.nil)
  .obtain rfl:k=s.length:=by omega
   refine Go ?_
   exact AA (Am (ResV.cell rfl rfl (Aa rfl) rfl rfl rfl) (Ae (by rw [YaV])))
abbrev clC(kind:Int)(P:List Tm)(n d r:Int)(o:List (Nat->Int))(l:List (List RTm))(s:List Int)(b:List (Nat->RQ×RQ)):List D:=[ex (.int .i64 kind),BS P,ex (.int .i64 n),ex (.int .i64 d),ex (.int .i64 r),Ep o,Ib l,Np s,Gb b]
theorem A0t(kind:Int)(P:List Tm)(n d r:Int)(o:List (Nat->Int))(l:List (List RTm))(s:List Int)(b:List (Nat->RQ×RQ)):EE ⟨kind,P.map EC,n,d,r,o,l,s,b⟩=clC kind P n d r o l s b:=by
 unfold clC;rw[Kf];rfl
def eq3(s j:List Int):Bool:=((MM s (-1):Nat):Int)==((MM j (-1):Nat):Int)&&((MM s 0:Nat):Int)==((MM j 0:Nat):Int)&&((MM s 1:Nat):Int)==((MM j 1:Nat):Int)
def Xa(q:Bool)(kind y n g d e r A:Int)(s j:List Int):Bool:=
 ((kind==1&&y==2)&&q)||((kind==5&&y==5)&&(d != e||n != g))||((kind==6&&y==6)&&(n != g||d != e||r != A))||((kind==8&&y==8)&&(q && !eq3 s j))||((kind==10&&y==8)&&(q&&decide ((0:Int)<((MM j (-1):Nat):Int))))
def rgP(kind:Int)(u x v Y:Int×Int):Bool:=
 ((decide (u.2<x.1)||decide (x.2<u.1))||(decide (v.2<Y.1)||decide (Y.2<v.1)))||decide (v.1>x.2)
theorem Un(kind W:Int)(P c:List Tm)(n g d e r J:Int)(o w:List (Nat->Int))(l m:List (List RTm))(s j:List Int)(b y:List (Nat->RQ×RQ))(M:PSz P 1000000000)(U:PSz c 1000000000)(f:P.length<=1000000)(L:c.length<=1000000)(Y:s.length<=1000000)(p:j.length<=1000000)(F:b.length<=1000000)(T:y.length<=1000000)(u x v I:Int×Int)(S:Tb 1073741824 kind n d=u)(xa:Tb 1073741824 W g e=x)(E:Zz 1073741824 kind n r (b.length:Nat)=v)(V:Zz 1073741824 W g J (y.length:Nat)=I) :
  Abs prog 71 [AP (clC kind P n d r o l s b),AP (clC W c g e J w m j y)] (ex (.bool (Xa (decide (CW P c=0)) kind W n g d e r J s j||rgP kind u x v I||(kind==2&&(x.1==0&&x.2==0))))):=by
 have h:=UC P c M U f L;have O:=Lj s Y;have xd:=Lj j p;have Q:=Sv ⟨kind,P.map EC,n,d,r,o,l,s,b⟩ F;have xb:=Sv ⟨W,c.map EC,g,e,J,w,m,j,y⟩ T;have cr:=Rt ⟨kind,P.map EC,n,d,r,o,l,s,b⟩ F;have xc:=Rt ⟨W,c.map EC,g,e,J,w,m,j,y⟩ T;rw[A0t]at Q xb cr xc;rw[show Tb 1073741824 (Clm.kind ⟨kind,P.map EC,n,d,r,o,l,s,b⟩) _ _=u from S]at Q;rw[show Tb 1073741824 (Clm.kind ⟨W,c.map EC,g,e,J,w,m,j,y⟩) _ _=x from xa]at xb;rw[show Zz 1073741824 (Clm.kind ⟨kind,P.map EC,n,d,r,o,l,s,b⟩) _ _ _=v from E]at cr;rw[show Zz 1073741824 (Clm.kind ⟨W,c.map EC,g,e,J,w,m,j,y⟩) _ _ _=I from V]at xc;have xf:=Uu u.1 u.2 x.1 x.2;have xg:=Uu v.1 v.2 I.1 I.2;clear S xa E V;refine Ab func71 λG=>?_;rw[ntmps71];apply Y1;refine Bx ?_;refine Bx ?_;refine Wa<|Y0 ?_;refine CL 0 2 rfl rfl rfl ?_;refine CL 1 3 rfl rfl rfl ?_;refine AWp.cutB 0 (λ_:Unit=>⟨[(2,.d (Fg 34 (clC kind P n d r o l s b))),(3,.d (Fg 34 (clC W c g e J w m j y))),(4,.d (ex (.bool false)))],[.dead,.dead]⟩) (λ_=>Xa (decide (CW P c=0)) kind W n g d e r J s j=false) ?_ ?_;refine AWp.block<|Y1 ?_;refine Wq AE ?_;refine Wq AT ?_;refine Wq Ci ?_;refine Wm ?_;refine EG (λH=>AE) ?_;refine CG 14 rfl (λH=>AT) ?_;refine CG 15 rfl (λH=>Ci) ?_;refine Wq CP ?_;refine Wa<|Y0 ?_
 .refine FK (ao rfl) (λZ=>?_) (λZ=>?_)
  .obtain ⟨A, B⟩:kind=1/\W=2:=by simpa using Z
   refine Go ?_;refine FK (ao rfl) (λq=>?_) (λq=>?_)
   .exact Zbq
   .exact Zbr
  refine ZfG ?_;refine CG 28 rfl (λH=>AT) ?_;refine CG 29 rfl (λH=>Ci) ?_;refine Go ?_;refine FK (ao rfl) (λC=>?_) (λC=>?_)
  .obtain ⟨A, B⟩:kind=5/\W=5:=by simpa using C
   refine Go ?_;refine Wv0 (λH=>AE) ?_;refine Wv1 38 rfl (λH=>AT) ?_;refine Wv0 (λH=>AE) ?_;refine Wv1 40 rfl (λH=>AT) ?_;refine Wv2 39 rfl 41 rfl (λH=>Ci) ?_;refine Go ?_;refine FK (ao rfl) (λq=>?_) (λq=>?_)
   .exact Zbq
   .exact Zbr
  refine ZfG ?_;refine CG 49 rfl (λH=>AT) ?_;refine CG 50 rfl (λH=>Ci) ?_;refine Go ?_;refine FK (ao rfl) (λK=>?_) (λK=>?_)
  .obtain ⟨A, B⟩:kind=6/\W=6:=by simpa using K
   refine Go ?_;refine Wv0 (λH=>AE) ?_;refine Wv1 59 rfl (λH=>AT) ?_;refine Wv0 (λH=>AE) ?_;refine Wv1 61 rfl (λH=>AT) ?_;refine Wv2 60 rfl 62 rfl (λH=>Ci) ?_;refine Go ?_;refine Wv0 (λH=>AE) ?_;refine Wv1 66 rfl (λH=>AT) ?_;refine Wv0 (λH=>AE) ?_;refine Wv1 68 rfl (λH=>AT) ?_;refine Wv2 67 rfl 69 rfl (λH=>Ci) ?_;refine Go ?_;refine FK (ao rfl) (λq=>?_) (λq=>?_)
   .exact Zbq
   .exact Zbr
  refine ZfG ?_;refine CG 77 rfl (λH=>AT) ?_;refine CG 78 rfl (λH=>Ci) ?_;refine Go ?_;refine FK (ao rfl) (λN=>?_) (λN=>?_)
  .obtain ⟨A, B⟩:kind=8/\W=8:=by simpa using N
   by_cases qq:CW P c=0
   .rw [Yak qq]at h ⊢
    apply Ai;refine Dy 14 ?_;have a:=xd;refine DO ?_;refine⟨_,Be rfl rfl (Aam rfl rfl),?_⟩;refine ZfT ?_;refine FK (ao rfl) (λq=>?_) (λq=>?_)
    .exact Zbq
    .exact Zbr
   .rw [Yad qq]at h ⊢
    apply Ai;refine Dy 14 ?_;refine ZfT ?_;exact Zix
  refine ZfG ?_;refine CG 100 rfl (λH=>AT) ?_;refine CG 101 rfl (λH=>Ci) ?_;refine Go ?_;refine FK (ao rfl) (λR=>?_) (λR=>?_)
  .obtain ⟨A, B⟩:kind=10/\W=8:=by simpa using R
   by_cases qq:CW P c=0
   .rw [Yak qq]at h ⊢
    have X:=xd;refine Go ?_;refine Wg (Aan (i:=0) (ds:=cn3 j) rfl rfl (Aa rfl) (Aa rfl) rfl ZbH ZbH (YbR _)) ?_;refine Go ?_;refine FK (ao rfl) (λq=>?_) (λq=>?_)
    .exact Zbq
    .exact Zbr
   .rw [Yad qq]at h ⊢
    refine Go ?_;exact Zix
  refine Go ?_;refine CutS.normal () (by simp only[Xa,Z,C,K,N,R,Bool.false_and,Bool.or_false]) ?_;exact Ac Zdb ZcV
 .rintro-xe
  rw[xe];apply Ai;refine Dy 6 ?_;refine DO ?_;refine Sf ?_;refine Sf ?_;apply Y0;refine CL 2 5 rfl rfl rfl ?_;refine CL 3 6 rfl rfl rfl ?_;apply Ai;refine Dy 6 ?_;have i:=xb;have k:=xc;refine DO ?_;refine Sf ?_;refine Sf ?_;apply Y0;refine CL 4 7 rfl rfl rfl ?_;refine CL 5 8 rfl rfl rfl ?_;refine Ai<|Y1 ?_;refine Wq Ca ?_;refine Wq Ca ?_;refine Wq (AK (xf)) ?_;refine Wm ?_;refine Wv0 (λH=>Ca) ?_;refine Wv0 (λH=>Ca) ?_;refine Wv2 128 rfl 129 rfl (λH=>AK (xg)) ?_;refine Wq NN ?_;refine Wm ?_;refine Wv0 (λH=>AE) ?_;refine Wv1 133 rfl (λH=>AT) ?_;refine Wv0 (λH=>AE) ?_;refine Wv1 135 rfl (λH=>AT) ?_;refine Wv2 134 rfl 136 rfl (λH=>Ci) ?_;refine Wq NN ?_;apply Y0
  refine FK (ao rfl) (λq=>?_) (λq=>?_)
  .refine Go ?_
   exact AA (Am (ResV.tmp rfl rfl) (Ae (congrArg (λz=>ex (.bool z)) (by rw[show rgP kind u x v I=true from q];simp))))
  .by_cases t:kind=2
   .refine Go ?_;refine Wg (A3H rfl rfl) ?_;refine Go ?_
    exact Zko
   .refine Go ?_
    exact Zko
section
variable {kind kind':Int} {P P':List Tm} {n n' d d' r r':Int} {o o':List (Nat->Int)} {l l':List (List RTm)} {s s':List Int} {b b':List (Nat->RQ×RQ)} {x y:Bool}
theorem A3Q(A:Abs prog 71 [AP (clC kind P n d r o l s b),AP (clC kind' P' n' d' r' o' l' s' b')] (ex (.bool x)))(B:Abs prog 71 [AP (clC kind' P' n' d' r' o' l' s' b'),AP (clC kind P n d r o l s b)] (ex (.bool y))) :
  Abs prog 29 [AP (clC kind P n d r o l s b),AP (clC kind' P' n' d' r' o' l' s' b')] (ex (.bool (x||y))):=by
 refine Ab func29 λv=>?_;rw[ntmps29];apply Y1;refine Bx ?_;refine Bx ?_;refine Wa<|Y0 ?_;refine CL 0 2 rfl rfl rfl ?_;refine CL 1 3 rfl rfl rfl ?_;apply Y1;refine Wq Ca ?_;refine Wq Ca ?_;refine Wq (AK (A)) ?_;refine Wm ?_;refine Wv0 (λH=>Ca) ?_;refine Wv0 (λH=>Ca) ?_;refine Wv2 9 rfl 10 rfl (λH=>AK (B)) ?_;refine Wq NN ?_;refine Wa<|Y0<|BV ?_
 exact Yf
end
def pQ(Q:List (List Tm))(i n:Nat):List (List Tm):=(List.range n).map λj=>if Q.length=0 then[]else Q.getD ((i+j)%Q.length) default
def pC(L:List (Nat×List (Nat->Int))):List Tm:=if(AZ L).length=0 then[]else(AZ L).getD (2%(AZ L).length) default
def rQ(Q:List (List Tm)):List (List RTm):=Q.map λP=>P.map EC
noncomputable def Cx (N:Nat) (L:List (Nat×List (Nat->Int))) (V:List Int):Clm:=
 if N%13=0\/N%13=1\/N%13=9 then⟨1+((N%13:Nat):Int),(pC L).map EC,0,0,0,[],[],[],[]⟩
 else if N%13=3 then⟨4,[],0,0,0,CS (AR V 2%256).toNat,rQ (pQ (AZ L) 1 (AR V 1%8%4).toNat),[],[]⟩
 else if N%13=4 then⟨5,[],AR V 3%16,AR V 1%8%4-1,0,[],[],[],[]⟩
 else if N%13=5 then⟨6,[],AR V 1%8,AR V 1%8-AR V 1%8/3,AR V 1%8/2,[],[],[],[]⟩
 else if N%13=6 then⟨7,[],0,0,0,[],[],[],(List.range (AR V 1%8%4).toNat).map (Ee V)⟩
 else if N%13=7 then⟨8,(pC L).map EC,0,0,0,[],[],(List.range (AR V 1%8%4).toNat).map (λi=>(AR V i%128)%3-1),(List.range (AR V 1%8%4).toNat).map (Ee V)⟩
 else if N%13=10 then⟨11,[],0,0,0,[],rQ (pQ (AZ L) 1 (AR V 1%8%4).toNat),[],[]⟩
 else if N%13=11\/N%13=12 then⟨1+((N%13:Nat):Int),[],AR V 1%8,0,0,[],[],[],[]⟩
 else⟨1+((N%13:Nat):Int),[],0,0,0,[],[],[],[]⟩
theorem A4m(a:Int):IntKind.u8.wrap a=(((a%256).toNat:Nat):Int):=by
 exact Zgd
theorem Gs(kind:Int)(P:List Tm)(n d r:Int)(o:List (Nat->Int))(Q:List (List Tm))(s:List Int)(b:List (Nat->RQ×RQ)):EE ⟨kind,P.map EC,n,d,r,o,rQ Q,s,b⟩=[ex (.int .i64 kind),BS P,ex (.int .i64 n),ex (.int .i64 d),ex (.int .i64 r),Ep o,Ba Q,Np s,Gb b]:=by
 rw[A0t,EZ];rfl
abbrev He(T o:Nat)(N:Nat)(L:List (Nat×List (Nat->Int)))(V:List Int):List D:=[ex (.int .u8 (N:Nat)),ZW T L,Ol o V]
theorem SK(T o:Nat)(N:Nat)(a:N<256)(B:N%13≠6)(g:N%13≠7)(L:List (Nat×List (Nat->Int)))(p:Tc L)(V:List Int)(e:I8 V)(J:V.length<=9223372036854775807):Abs prog 24 [AP (He T o N L V)] (AP (EE (Cx N L V))):=by
 have q:=Ez T L p
 have l:(AZ L).length<=6:=by
  exact ZhK
 have n:Abs prog 62 [Ba (AZ L),ex (.int .i64 (2:Nat)),ex (.int .i64 (1:Nat))] (Ba [pC L]):=Eu (AZ L) 2 1 ZbH ZbH ZbD;have C:=CH o V e 1 ZbH J;have A:=Cj e 1;by_cases m:N%13=3
 .rw [show Cx N L V=⟨4, ([]:List Tm).map EC, 0, 0, 0, CS (AR V 2%256).toNat, rQ (pQ (AZ L) 1 (AR V 1%8%4).toNat), [], []⟩ from by simp [Cx, rQ, m]]
  rw[Gs];refine Ab func24 λv=>?_;rw[ntmps24];refine Go ?_;refine Dy 9 ?_;refine DO ?_;refine⟨_,HStep.q rfl (Ey 3 rfl rfl ZbD),?_⟩;refine DO ?_;have E:=CH o V e 2 ZbH J;have h:=Pc (AR V 2%256).toNat ZbD;have I:=Eu (AZ L) 1 (AR V 1%8%4).toNat ZbH ZbD ZbD;refine Wa<|Y0<|Ai<|Y1 ?_;refine Wq AB ?_;refine Wq Ar ?_;refine Y0<|AWp.block<|Ai<|Y1 ?_;refine Wq AN ?_;refine Wa<|Y0<|Cf<|Y1 ?_;refine Wq AN ?_;refine Wa<|Y0<|Cf<|AWp.region ?_;refine Wq AN ?_;refine Wa<|Y0<|Cf<|Y1 ?_;refine Wq Bb ?_;refine Wa<|Y0<|Ct<|AWp.region ?_;refine Wq AB ?_;refine Wq Ar ?_;refine Wq (AK (E)) ?_;refine Wq (AO (r:=(((AR V 2%256).toNat:Nat):Int)) (ao rfl) (Aa rfl) (Aa rfl) (A4m _)) ?_;refine Wq (AK (h)) ?_;refine Wm<|Wm ?_;refine Wq (Eo (r:=(((AR V 1%8%4).toNat:Nat):Int)) (ao rfl) (ao rfl) ((DE (AR V 1%((2^3:Nat):Int)) (j:=2) ZbD).trans ZbD)) ?_;refine Wq (AK (I)) ?_;refine Wq AB ?_;refine Dd (ao rfl) (ao rfl) rfl (Aa rfl) ZbU rfl rfl ?_;refine Wq AB ?_;refine Dd (ao rfl) (ao rfl) rfl (Aa rfl) ZbU rfl rfl ?_;refine AWl.nil<|Bh<|Yn<|Y1 ?_;refine Wq AH ?_;refine Sf ?_;refine Y0<|BV ?_
  exact AA (Am (ResV.cell rfl rfl (Aa rfl) rfl rfl rfl) (Ce ZbN))
 by_cases M:N%13=10
 .rw [show Cx N L V=⟨11, ([]:List Tm).map EC, 0, 0, 0, [], rQ (pQ (AZ L) 1 (AR V 1%8%4).toNat), [], []⟩ from by simp [Cx, rQ, M]]
  rw[Gs];refine Ab func24 λv=>?_;refine ZgO ?_;refine DO ?_;have I:=Eu (AZ L) 1 (AR V 1%8%4).toNat ZbH ZbD ZbD;refine Go ?_;refine Wq (Eo (r:=(((AR V 1%8%4).toNat:Nat):Int)) (ao rfl) (ao rfl) ((DE (AR V 1%((2^3:Nat):Int)) (j:=2) ZbD).trans ZbD)) ?_;exact ZfC
 by_cases G:N%13=4
 .rw [show Cx N L V=⟨5, ([]:List Tm).map EC, AR V 3%16, AR V 1%8%4-1, 0, [], rQ [], [], []⟩ from by simp [Cx, rQ, G]]
  rw[Gs];refine Ab func24 λv=>?_;refine ZgO ?_;refine DO ?_;have E:=CH o V e 3 ZbH J;refine Go ?_;refine Wq (Ey 2 rfl rfl ZbD) ?_;refine Go ?_;refine Wq (Ey 4 rfl rfl ZbD) ?_;exact ZfC
 by_cases Z:N%13=5
 .rw [show Cx N L V=⟨6, ([]:List Tm).map EC, AR V 1%8, AR V 1%8-AR V 1%8/3, AR V 1%8/2, [], rQ [], [], []⟩ from by simp [Cx, rQ, Z]]
  exact ZiE
 by_cases K:N%13=0
 .rw [show Cx N L V=⟨1, (pC L).map EC, 0, 0, 0, [], rQ [], [], []⟩ from by simp [Cx, rQ, K]]
  exact ZiE
 by_cases k:N%13=1
 .rw [show Cx N L V=⟨2, (pC L).map EC, 0, 0, 0, [], rQ [], [], []⟩ from by simp [Cx, rQ, k]]
  exact ZiE
 by_cases z:N%13=9
 .rw [show Cx N L V=⟨10, (pC L).map EC, 0, 0, 0, [], rQ [], [], []⟩ from by simp [Cx, rQ, z]]
  exact ZiE
 by_cases u:N%13=2
 .rw [show Cx N L V=⟨3, ([]:List Tm).map EC, 0, 0, 0, [], rQ [], [], []⟩ from by simp [Cx, rQ, u]]
  exact ZiE
 by_cases w:N%13=8
 .rw [show Cx N L V=⟨9, ([]:List Tm).map EC, 0, 0, 0, [], rQ [], [], []⟩ from by simp [Cx, rQ, w]]
  exact ZiE
 by_cases F:N%13=11
 .rw [show Cx N L V=⟨12, ([]:List Tm).map EC, AR V 1%8, 0, 0, [], rQ [], [], []⟩ from by simp [Cx, rQ, F]]
  exact ZiE
 by_cases c:N%13=12
 .rw [show Cx N L V=⟨13, ([]:List Tm).map EC, AR V 1%8, 0, 0, [], rQ [], [], []⟩ from by simp [Cx, rQ, c]]
  exact ZiE
 omega
def orD(x y:D):D:=⟨λs v=>x.rel s v\/y.rel s v,λh I=>h.elim (λh=>.inl (x.st h I)) λh=>.inr (y.st h I)⟩
theorem A6E(h:D.le r vw):D.le r (orD vw uq):=λs v A=>.inl (h s v A)
theorem A6D(h:D.le r uq):D.le r (orD vw uq):=λs v A=>.inr (h s v A)
abbrev Tp(V:List Int)(k:Nat):List (Nat->RQ×RQ):=(List.range k).map (Ee V)
theorem YE(V:List Int)(k:Nat):(Tp V (k+1)).map Dv=(Tp V k).map Dv++[Dv (Ee V k)]:=by simp[Tp,Ycv]
abbrev sgK(V:List Int)(k:Nat):List Int:=(List.range k).map λi=>(AR V i%128)%3-1
abbrev sgR(V:List Int)(k:Nat):List (List D):=(sgK V k).map λz=>[ex (.int .i64 z)]
theorem A4E(V:List Int)(k:Nat):sgR V (k+1)=sgR V k++[[ex (.int .i64 ((AR V k%128)%3-1))]]:=by simp[sgR,sgK,Ycv]
theorem Tv(T o:Nat)(F:Nat)(a:F<256)(L:List (Nat×List (Nat->Int)))(p:Tc L)(V:List Int)(e:I8 V)(J:V.length<=9223372036854775807)(x:F%13=6):Abs prog 24 [AP (He T o F L V)] (AP (EE (Cx F L V))):=by
 have q:=Ez T L p
 have l:(AZ L).length<=6:=by
  exact ZhK
 have n:Abs prog 62 [Ba (AZ L),ex (.int .i64 (2:Nat)),ex (.int .i64 (1:Nat))] (Ba [pC L]):=Eu (AZ L) 2 1 ZbH ZbH ZbD;have E:=CH o V e 1 ZbH J;have A:=Cj e 1;obtain⟨N,R⟩:∃N,N=(AR V 1%8%4).toNat:=⟨_,rfl⟩;rw[show Cx F L V=⟨7,([]:List Tm).map EC,0,0,0,[],rQ [],[],Tp V N⟩from by simp[Cx,rQ,x,Tp,sgK,R]];rw[Gs];refine Ab func24 λB=>?_;refine ZgO ?_;refine ZfT ?_;rw[show(1+(F:Int)%13)=7 by omega];refine Fc 131 64 ZbH ZbH rfl ?_;refine AC (λu d=>∃k v,k<=N/\u=N-k/\d=⟨[(1,.ptr 0 0),(2,.ptr 1 0),(4,.ptr 2 0),(5,.d (BS (pC L))),(6,.d (ex (.int .i64 (AR V 1%((2^3:Nat):Int))))),(7,.d (ex (.int .i64 (k:Nat))))],[.var 58 ((He T o F L V).map .d),.var 34 (([ex (.int .i64 0),ex (.slice none 0 0),ex (.int .i64 0),ex (.int .i64 0),ex (.int .i64 0),ex (.slice none 0 0),ex (.slice none 0 0),ex (.slice none 0 0),ex (.slice none 0 0)]:List D).map .d),.var 34 (([ex (.int .i64 7),ex (.slice none 0 0),ex (.int .i64 0),ex (.int .i64 0),ex (.int .i64 0),ex (.slice none 0 0),ex (.slice none 0 0),ex (.slice none 0 0),ex v]:List D).map .d),.obj (Ma v 131 64 ((Tp V k).map Dv))]⟩) ?le ⟨0,.slice none 0 0,by omega,rfl,rfl⟩ ?round
 case le=>exact Ac ZdU (by exact Yv<|Yv<|Yv<|HpLe.cons (OwLe.obj rfl)<|HpLe.nil)
 case round=>
  rintro u _ ⟨k,v,C,rfl,rfl⟩;by_cases Q:k<N
  .have G:=Lp o V e J k ZbD
   refine Go ?_;refine Wq (Eo (r:=((N:Nat):Int)) (ao rfl) (ao rfl) ((DE (AR V 1%((2^3:Nat):Int)) (j:=2) ZbD).trans ZbD)) ?_;refine Go ?_;refine FJ 3 (.obj (Ma v 131 64 ((Tp V k).map Dv))) (.row 131 64 ((Tp V k).map Dv++[Dv (Ee V k)])) 7 9 [8,7,6,5,4,3,2,1,0] [] [.ptr 2 8,.d (ex v),.ptr 0 2,.d (Ol o V),.d (ex (.int .i64 (k:Nat))),.d (AP (Dv (Ee V k))),.d (slD 131 64 [Dv (Ee V k)]),.own 3,.ptr 2 8] [[],[(78,0)],[],[(80,2)],[],[(81,3),(82,4)],[(83,5)],[(79,1),(84,6)],[]] [(1,.ptr 0 0),(2,.ptr 1 0),(4,.ptr 2 0),(5,.d (BS (pC L))),(6,.d (ex (.int .i64 (AR V 1%((2^3:Nat):Int))))),(7,.d (ex (.int .i64 (k:Nat))))] [(85,.own 3),(86,.ptr 2 8),(1,.ptr 0 0),(2,.ptr 1 0),(4,.ptr 2 0),(5,.d (BS (pC L))),(6,.d (ex (.int .i64 (AR V 1%((2^3:Nat):Int))))),(7,.d (ex (.int .i64 (k:Nat))))] ZbI rfl ⟨rfl,rfl,rfl,rfl,rfl,rfl,trivial⟩ rfl rfl ZbI ZbI ZbI (by refine DSteps.q rfl ZbB ?_;refine DSteps.q rfl ZbB ?_;refine DSteps.q rfl ZbB ?_;refine DSteps.q rfl ZbB ?_;refine DSteps.q rfl ZbB ?_;refine DSteps.q rfl (λ_=>BP (ah rfl) G (ArgsLe.cons rfl (D.le.refl _) (ArgsLe.cons rfl (D.le.refl _) ArgsLe.nil))) ?_;refine DSteps.q rfl (λ_=>Cb (ah rfl) (Aa rfl) (Aa rfl) rfl rfl rfl rfl rfl) ?_;refine DSteps.k rfl (DTurn.rows rfl rfl rfl (Aa rfl) (Aa rfl) rfl rfl rfl rfl Zip Zip) ?_;refine DSteps.q rfl ZbB ?_;exact DSteps.nil) ZbI ZbI ⟨rfl,rfl,rfl,rfl,rfl,rfl,rfl,rfl,trivial⟩ [.var 58 ((He T o F L V).map .d),.var 34 (([ex (.int .i64 0),ex (.slice none 0 0),ex (.int .i64 0),ex (.int .i64 0),ex (.int .i64 0),ex (.slice none 0 0),ex (.slice none 0 0),ex (.slice none 0 0),ex (.slice none 0 0)]:List D).map .d),.var 34 (([ex (.int .i64 7),ex (.slice none 0 0),ex (.int .i64 0),ex (.int .i64 0),ex (.int .i64 0),ex (.slice none 0 0),ex (.slice none 0 0),ex (.slice none 0 0),ex v]:List D).map .d),.row 131 64 ((Tp V k).map Dv++[Dv (Ee V k)])] rfl ?_;refine En (ao rfl) (ao rfl) rfl (Aa rfl) (One.own rfl) rfl rfl ?_;apply Y0;(refine FU 3 131 64 ((Tp V (k+1)).map Dv) (by rw[YE];rfl) λY=>?_);apply Y1;refine Wq AB ?_;refine Wq Cm ?_;refine Wq AN ?_;refine Y0<|Cf<|GW<|Bh<|Yn<|AWp.region<|Wm ?_;refine Wq CJ ?_;refine Wa<|AWl.nil ?_
   skip
   refine Ah (N-(k+1)) ZbD ⟨k+1,Y,by omega,rfl,rfl⟩ ?_;exact Ac ZdU (by exact HpLe.cons (Ad rfl)<|HpLe.cons (Ad rfl)<|HpLe.cons (Ad rfl)<|HpLe.cons (OwLe.obj rfl)<|HpLe.nil)
  .obtain rfl:k=N:=by omega
   refine DT (σ':=⟨[(1,.ptr 0 0),(2,.ptr 1 0),(4,.ptr 2 0),(5,.d (BS (pC L))),(6,.d (ex (.int .i64 (AR V 1%((2^3:Nat):Int))))),(7,.d (ex (.int .i64 (k:Nat))))],[.var 58 ((He T o F L V).map .d),.var 34 (([ex (.int .i64 0),ex (.slice none 0 0),ex (.int .i64 0),ex (.int .i64 0),ex (.int .i64 0),ex (.slice none 0 0),ex (.slice none 0 0),ex (.slice none 0 0),ex (.slice none 0 0)]:List D).map .d),.var 34 (([ex (.int .i64 7),ex (.slice none 0 0),ex (.int .i64 0),ex (.int .i64 0),ex (.int .i64 0),ex (.slice none 0 0),ex (.slice none 0 0),ex (.slice none 0 0),Gb (Tp V k)]:List D).map .d),.dead]⟩) ?wk ?_
   case wk=>exact Ac Zcw (HpLe.cons (OwLe.varD rfl) (HpLe.cons (OwLe.varD rfl) (HpLe.cons (OwLe.cells (CellsLe.cons (AVle.d rfl) (CellsLe.cons (AVle.d rfl) (CellsLe.cons (AVle.d rfl) (CellsLe.cons (AVle.d rfl) (CellsLe.cons (AVle.d rfl) (CellsLe.cons (AVle.d rfl) (CellsLe.cons (AVle.d rfl) (CellsLe.cons (AVle.d rfl) (CellsLe.cons (AVle.rows (id:=3) rfl) CellsLe.nil)))))))))) (HpLe.cons OwLe.dead HpLe.nil))))
   refine Go ?_;exact ZgW
theorem Tt(T o:Nat)(G:Nat)(a:G<256)(L:List (Nat×List (Nat->Int)))(p:Tc L)(V:List Int)(e:I8 V)(J:V.length<=9223372036854775807)(O:G%13=7):Abs prog 24 [AP (He T o G L V)] (AP (EE (Cx G L V))):=by
 have q:=Ez T L p
 have l:(AZ L).length<=6:=by
  exact ZhK
 have n:Abs prog 62 [Ba (AZ L),ex (.int .i64 (2:Nat)),ex (.int .i64 (1:Nat))] (Ba [pC L]):=Eu (AZ L) 2 1 ZbH ZbH ZbD;have F:=CH o V e 1 ZbH J;have A:=Cj e 1;obtain⟨N,R⟩:∃N,N=(AR V 1%8%4).toNat:=⟨_,rfl⟩;rw[show Cx G L V=⟨8,(pC L).map EC,0,0,0,[],rQ [],sgK V N,Tp V N⟩from by simp[Cx,rQ,O,Tp,sgK,R]];rw[Gs];refine Ab func24 λE=>?_;refine ZgO ?_;refine ZfT ?_;rw[show(1+(G:Int)%13)=8 by omega];refine Fc 131 64 ZbH ZbH rfl ?_;refine Fc 3 1 ZbH ZbH rfl ?_;refine AC (λB d=>∃k v u,k<=N/\B=N-k/\d=⟨[(1,.ptr 0 0),(2,.ptr 1 0),(4,.ptr 2 0),(5,.d (BS (pC L))),(6,.d (ex (.int .i64 (AR V 1%((2^3:Nat):Int))))),(7,.d (ex (.int .i64 (k:Nat))))],[.var 58 ((He T o G L V).map .d),.var 34 (([ex (.int .i64 0),ex (.slice none 0 0),ex (.int .i64 0),ex (.int .i64 0),ex (.int .i64 0),ex (.slice none 0 0),ex (.slice none 0 0),ex (.slice none 0 0),ex (.slice none 0 0)]:List D).map .d),.var 34 (([ex (.int .i64 8),orD (ex (.slice none 0 0)) (BS (pC L)),ex (.int .i64 0),ex (.int .i64 0),ex (.int .i64 0),ex (.slice none 0 0),ex (.slice none 0 0),ex u,ex v]:List D).map .d),.obj (Ma v 131 64 ((Tp V k).map Dv)),.obj (Ma u 3 1 (sgR V k))]⟩) ?le ⟨0,.slice none 0 0,.slice none 0 0,by omega,rfl,rfl⟩ ?round
 case le=>exact Ac Zcw (HpLe.cons (OwLe.varD rfl) (HpLe.cons (OwLe.varD rfl) (HpLe.cons (OwLe.cells (CellsLe.cons (AVle.d rfl) (CellsLe.cons (AVle.le (A6E (D.le.refl _))) (CellsLe.cons (AVle.d rfl) (CellsLe.cons (AVle.d rfl) (CellsLe.cons (AVle.d rfl) (CellsLe.cons (AVle.d rfl) (CellsLe.cons (AVle.d rfl) (CellsLe.cons (AVle.d rfl) (CellsLe.cons (AVle.d rfl) CellsLe.nil)))))))))) (HpLe.cons (OwLe.obj rfl) (HpLe.cons (OwLe.obj rfl) HpLe.nil)))))
 case round=>
  rintro B _ ⟨k,v,u,C,rfl,rfl⟩;by_cases Q:k<N
  .have M:=Lp o V e J k ZbD
   have I:=CH o V e k ZbD J;have K:=Cj e k;refine Go ?_;refine Wq (Eo (r:=((N:Nat):Int)) (ao rfl) (ao rfl) ((DE (AR V 1%((2^3:Nat):Int)) (j:=2) ZbD).trans ZbD)) ?_;refine Go ?_;refine FJ 3 (.obj (Ma v 131 64 ((Tp V k).map Dv))) (.row 131 64 ((Tp V k).map Dv++[Dv (Ee V k)])) 7 9 [8,7,6,5,4,3,2,1,0] [] [.ptr 2 8,.d (ex v),.ptr 0 2,.d (Ol o V),.d (ex (.int .i64 (k:Nat))),.d (AP (Dv (Ee V k))),.d (slD 131 64 [Dv (Ee V k)]),.own 3,.ptr 2 8] [[],[(78,0)],[],[(80,2)],[],[(81,3),(82,4)],[(83,5)],[(79,1),(84,6)],[]] [(1,.ptr 0 0),(2,.ptr 1 0),(4,.ptr 2 0),(5,.d (BS (pC L))),(6,.d (ex (.int .i64 (AR V 1%((2^3:Nat):Int))))),(7,.d (ex (.int .i64 (k:Nat))))] [(85,.own 3),(86,.ptr 2 8),(1,.ptr 0 0),(2,.ptr 1 0),(4,.ptr 2 0),(5,.d (BS (pC L))),(6,.d (ex (.int .i64 (AR V 1%((2^3:Nat):Int))))),(7,.d (ex (.int .i64 (k:Nat))))] ZbI rfl ⟨rfl,rfl,rfl,rfl,rfl,rfl,trivial⟩ rfl rfl ZbI ZbI ZbI (by refine DSteps.q rfl ZbB ?_;refine DSteps.q rfl ZbB ?_;refine DSteps.q rfl ZbB ?_;refine DSteps.q rfl ZbB ?_;refine DSteps.q rfl ZbB ?_;refine DSteps.q rfl (λ_=>BP (ah rfl) M (ArgsLe.cons rfl (D.le.refl _) (ArgsLe.cons rfl (D.le.refl _) ArgsLe.nil))) ?_;refine DSteps.q rfl (λ_=>Cb (ah rfl) (Aa rfl) (Aa rfl) rfl rfl rfl rfl rfl) ?_;refine DSteps.k rfl (DTurn.rows rfl rfl rfl (Aa rfl) (Aa rfl) rfl rfl rfl rfl Zip Zip) ?_;refine DSteps.q rfl ZbB ?_;exact DSteps.nil) ZbI ZbI ⟨rfl,rfl,rfl,rfl,rfl,rfl,rfl,rfl,trivial⟩ [.var 58 ((He T o G L V).map .d),.var 34 (([ex (.int .i64 0),ex (.slice none 0 0),ex (.int .i64 0),ex (.int .i64 0),ex (.int .i64 0),ex (.slice none 0 0),ex (.slice none 0 0),ex (.slice none 0 0),ex (.slice none 0 0)]:List D).map .d),.var 34 (([ex (.int .i64 8),orD (ex (.slice none 0 0)) (BS (pC L)),ex (.int .i64 0),ex (.int .i64 0),ex (.int .i64 0),ex (.slice none 0 0),ex (.slice none 0 0),ex u,ex v]:List D).map .d),.row 131 64 ((Tp V k).map Dv++[Dv (Ee V k)]),.obj (Ma u 3 1 (sgR V k))] rfl ?_;refine En (ao rfl) (ao rfl) rfl (Aa rfl) (One.own rfl) rfl rfl ?_;apply Y0;(refine FU 3 131 64 ((Tp V (k+1)).map Dv) (by rw[YE];rfl) λY=>?_);apply Y1;refine Wq AB ?_;refine Wq Cm ?_;refine Wq Bb ?_;refine Y0<|Ct ?_
   refine DT (σ':=⟨[(1,.ptr 0 0),(2,.ptr 1 0),(4,.ptr 2 0),(5,.d (BS (pC L))),(6,.d (ex (.int .i64 (AR V 1%((2^3:Nat):Int))))),(7,.d (ex (.int .i64 (k:Nat))))],[.var 58 ((He T o G L V).map .d),.var 34 (([ex (.int .i64 0),ex (.slice none 0 0),ex (.int .i64 0),ex (.int .i64 0),ex (.int .i64 0),ex (.slice none 0 0),ex (.slice none 0 0),ex (.slice none 0 0),ex (.slice none 0 0)]:List D).map .d),.var 34 (([ex (.int .i64 8),orD (ex (.slice none 0 0)) (BS (pC L)),ex (.int .i64 0),ex (.int .i64 0),ex (.int .i64 0),ex (.slice none 0 0),ex (.slice none 0 0),ex u,ex Y]:List D).map .d),.obj (Ma Y 131 64 ((Tp V (k+1)).map Dv)),.obj (Ma u 3 1 (sgR V k))]⟩) ?wk2 ?_
   case wk2=>exact Ac ZdU (by exact HpLe.cons (Ad rfl)<|HpLe.cons (Ad rfl)<|HpLe.cons (Ad rfl)<|HpLe.cons (OwLe.obj rfl)<|HpLe.cons (OwLe.obj rfl)<|HpLe.nil)
   skip
   refine FJ 4 (.obj (Ma u 3 1 (sgR V k))) (.row 3 1 (sgR V k++[[ex (.int .i64 ((AR V k%128)%3-1))]])) 11 13 [12,11,10,9,8,7,6,5,4,3,2,1,0] [] [.d (BS (pC L)),.ptr 2 7,.d (ex u),.ptr 0 2,.d (Ol o V),.d (ex (.int .i64 (k:Nat))),.d (ex (.int .i64 (AR V k))),.d (ex (.int .i64 (AR V k%128))),.d (ex (.int .i64 (AR V k%128%3))),.d (ex (.int .i64 (AR V k%128%3-1))),.d (slD 3 1 [[ex (.int .i64 ((AR V k%128)%3-1))]]),.own 4,.ptr 2 1] [[],[],[(91,1)],[],[(93,3)],[],[(94,4),(95,5)],[(96,6)],[(97,7)],[(98,8)],[(99,9)],[(92,2),(100,10)],[]] [(1,.ptr 0 0),(2,.ptr 1 0),(4,.ptr 2 0),(5,.d (BS (pC L))),(6,.d (ex (.int .i64 (AR V 1%((2^3:Nat):Int))))),(7,.d (ex (.int .i64 (k:Nat))))] [(101,.own 4),(102,.ptr 2 1),(90,.d (BS (pC L))),(1,.ptr 0 0),(2,.ptr 1 0),(4,.ptr 2 0),(5,.d (BS (pC L))),(6,.d (ex (.int .i64 (AR V 1%((2^3:Nat):Int))))),(7,.d (ex (.int .i64 (k:Nat))))] ZbI rfl ⟨rfl,rfl,rfl,rfl,rfl,rfl,trivial⟩ rfl rfl ZbI ZbI ZbI (by refine DSteps.q rfl ZbB ?_;refine DSteps.q rfl ZbB ?_;refine DSteps.q rfl ZbB ?_;refine DSteps.q rfl ZbB ?_;refine DSteps.q rfl ZbB ?_;refine DSteps.q rfl ZbB ?_;refine DSteps.q rfl (λ_=>BP (ah rfl) I (ArgsLe.cons rfl (D.le.refl _) (ArgsLe.cons rfl (D.le.refl _) ArgsLe.nil))) ?_;refine DSteps.q rfl (λ_=>Eo (ah rfl) (ah rfl) ((DE (AR V k) (j:=7) ZbD).trans rfl)) ?_;refine DSteps.q rfl (λ_=>Md (ah rfl) (ah rfl) ZbH (by rw[Yck ZbD])) ?_;refine DSteps.q rfl (λ_=>Pg (ah rfl) (ah rfl) ZbD ZbD) ?_;refine DSteps.q rfl (λ_=>Aq Zdh) ?_;refine DSteps.k rfl (DTurn.rows rfl rfl rfl (Aa rfl) (Aa rfl) rfl rfl rfl rfl Zip Zip) ?_;refine DSteps.q rfl ZbB ?_;exact DSteps.nil) ZbI ZbI ⟨rfl,rfl,rfl,rfl,rfl,rfl,rfl,rfl,rfl,trivial⟩ [.var 58 ((He T o G L V).map .d),.var 34 (([ex (.int .i64 0),ex (.slice none 0 0),ex (.int .i64 0),ex (.int .i64 0),ex (.int .i64 0),ex (.slice none 0 0),ex (.slice none 0 0),ex (.slice none 0 0),ex (.slice none 0 0)]:List D).map .d),.var 34 (([ex (.int .i64 8),orD (ex (.slice none 0 0)) (BS (pC L)),ex (.int .i64 0),ex (.int .i64 0),ex (.int .i64 0),ex (.slice none 0 0),ex (.slice none 0 0),ex u,ex Y]:List D).map .d),.obj (Ma Y 131 64 ((Tp V (k+1)).map Dv)),.row 3 1 (sgR V k++[[ex (.int .i64 ((AR V k%128)%3-1))]])] rfl ?_;refine Dd (ao rfl) (ao rfl) rfl (Aa rfl) ZbU rfl rfl ?_;refine Wq AB ?_;refine En (ao rfl) (ao rfl) rfl (Aa rfl) (One.own rfl) rfl rfl ?_;refine AWl.nil<|Bh<|Yn ?_;(refine FU 4 3 1 (sgR V (k+1)) (by rw[A4E];rfl) λx=>?_);refine AWp.region<|Wm ?_;refine Wq CJ ?_;refine Wa<|AWl.nil ?_
   skip
   refine Ah (N-(k+1)) ZbD ⟨k+1,Y,x,by omega,rfl,rfl⟩ ?_;exact Ac (by repeat (first | exact FrLe.nil | refine Yp ?_ | refine Yd ?_ | refine FrLe.cons rfl (AVle.int ZbD) ?_)) (HpLe.cons (Ad rfl) (HpLe.cons (Ad rfl) (HpLe.cons (OwLe.cells (CellsLe.cons (AVle.d rfl) (CellsLe.cons (AVle.le (A6D (D.le.refl _))) (CellsLe.cons (AVle.d rfl) (CellsLe.cons (AVle.d rfl) (CellsLe.cons (AVle.d rfl) (CellsLe.cons (AVle.d rfl) (CellsLe.cons (AVle.d rfl) (CellsLe.cons (AVle.d rfl) (CellsLe.cons (AVle.d rfl) CellsLe.nil)))))))))) (HpLe.cons (OwLe.obj rfl) (HpLe.cons (OwLe.obj rfl) HpLe.nil)))))
  .obtain rfl:k=N:=by omega
   refine DT (σ':=⟨[(1,.ptr 0 0),(2,.ptr 1 0),(4,.ptr 2 0),(5,.d (BS (pC L))),(6,.d (ex (.int .i64 (AR V 1%((2^3:Nat):Int))))),(7,.d (ex (.int .i64 (k:Nat))))],[.var 58 ((He T o G L V).map .d),.var 34 (([ex (.int .i64 0),ex (.slice none 0 0),ex (.int .i64 0),ex (.int .i64 0),ex (.int .i64 0),ex (.slice none 0 0),ex (.slice none 0 0),ex (.slice none 0 0),ex (.slice none 0 0)]:List D).map .d),.var 34 (([ex (.int .i64 8),orD (ex (.slice none 0 0)) (BS (pC L)),ex (.int .i64 0),ex (.int .i64 0),ex (.int .i64 0),ex (.slice none 0 0),ex (.slice none 0 0),Np (sgK V k),Gb (Tp V k)]:List D).map .d),.dead,.dead]⟩) ?wk ?_
   case wk=>exact Ac Zcw (HpLe.cons (OwLe.varD rfl) (HpLe.cons (OwLe.varD rfl) (HpLe.cons (OwLe.cells (CellsLe.cons (AVle.d rfl) (CellsLe.cons (AVle.d rfl) (CellsLe.cons (AVle.d rfl) (CellsLe.cons (AVle.d rfl) (CellsLe.cons (AVle.d rfl) (CellsLe.cons (AVle.d rfl) (CellsLe.cons (AVle.d rfl) (CellsLe.cons (AVle.rows (id:=4) rfl) (CellsLe.cons (AVle.rows (id:=3) rfl) CellsLe.nil)))))))))) (HpLe.cons OwLe.dead (HpLe.cons OwLe.dead HpLe.nil)))))
   refine Go ?_;exact ZgW
theorem Tu(T o:Nat)(N:Nat)(a:N<256)(L:List (Nat×List (Nat->Int)))(p:Tc L)(V:List Int)(e:I8 V)(J:V.length<=9223372036854775807):Abs prog 24 [AP (He T o N L V)] (AP (EE (Cx N L V))):=by
 by_cases B:N%13=6
 .exact Tv T o N a L p V e J B
 by_cases g:N%13=7
 .exact Tt T o N a L p V e J g
 exact SK T o N a B g L p V e J
theorem A2N(P Q:List Tm):decide (CW P Q=0)=JF P Q:=by
 rw[YcP,MD];simp only[Ybb];exact LG
theorem Vh(L:List (Nat×List (Nat->Int))):∀P∈AZ L,PB P 3 9 2:=λP h=>by
 obtain⟨x,_,rfl⟩:=YaA.1 h;exact A5g x.2 2 3 ZbH
theorem Abe(L:List (Nat×List (Nat->Int))):PB (pC L) 3 9 2:=by
 unfold pC;split
 .exact PB.nil
 .rename_i h
  have Q:2%(AZ L).length<(AZ L).length:=YaT _ ZbD;rw[Yab,Yac Q];exact Vh L _ (Ybt Q)
theorem LE(z:Nat):(CS z).length<=10:=by
 unfold CS
 repeat' split
 all_goals simp[revRows,Gk]
structure ClOk(kind n d r:Int)(P:List Tm)(o:List (Nat->Int))(s:List Int)(b:List (Nat->RQ×RQ)):Prop where
 kd:1<=kind/\kind<=13
 pb:PB P 3 9 2
 nb:0<=n/\n<=1000
 rb:0<=r/\r<=1000
 rn:0<=r/\r<=n\/kind≠6
 r5:kind=5->r=0
 ob:o.length<=1000
 sb:s.length<=1000
 bb:b.length<=1000
theorem ClOk.mk'{c:Clm}(P:List Tm)(Q:List (List Tm))(G:c.p=P.map EC)(J:c.l=rQ Q)(h:ClOk c.kind c.n c.d c.r P c.o c.s c.b):∃kind P n d r o Q s b,c=⟨kind,P.map EC,n,d,r,o,rQ Q,s,b⟩/\ClOk kind n d r P o s b:=by
 obtain⟨kind,p,n,d,r,o,l,s,b⟩:=c
 dsimp only at G J h
 subst G;subst J;exact⟨_,_,_,_,_,_,_,_,_,rfl,h⟩
theorem A0g(N:Nat)(L:List (Nat×List (Nat->Int)))(V:List Int)(e:I8 V):∃kind P n d r o Q s b,Cx N L V=⟨kind,P.map EC,n,d,r,o,rQ Q,s,b⟩/\ClOk kind n d r P o s b:=by
 have A:=Cj e 1;have B:=Cj e 3;have G:=Abe L;have x:N%13<13:=YaT _ ZbH;unfold Cx;by_cases K:N%13=0\/N%13=1\/N%13=9
 .rw [Yan K]
  exact ClOk.mk' (pC L) [] rfl rfl ⟨by dsimp only;omega,G,by dsimp only;omega,by dsimp only;omega,.inl ZbW,λ_=>rfl,by simp,by simp,by simp⟩
 rw[Yai K];by_cases m:N%13=3
 .rw [Yan m]
  exact ClOk.mk' [] _ rfl rfl ⟨by dsimp only;omega,PB.nil,by dsimp only;omega,by dsimp only;omega,.inl ZbW,λ_=>rfl,by have:=LE (AR V 2%256).toNat;exact Yat this ZbH,by simp,by simp⟩
 rw[Yai m];by_cases T:N%13=4
 .rw [Yan T]
  exact Zkp
 rw[Yai T];by_cases Z:N%13=5
 .rw [Yan Z]
  exact ClOk.mk' [] [] rfl rfl ⟨by dsimp only;omega,PB.nil,by dsimp only;omega,by dsimp only;omega,.inl ZbW,λh=>(by dsimp only at h;omega),by simp,by simp,by simp⟩
 rw[Yai Z];by_cases y:N%13=6
 .rw [Yan y]
  exact ClOk.mk' [] [] rfl rfl ⟨by dsimp only;omega,PB.nil,by dsimp only;omega,by dsimp only;omega,.inl ZbW,λ_=>rfl,by simp,by simp,by simp;omega⟩
 rw[Yai y];by_cases C:N%13=7
 .rw [Yan C]
  exact ClOk.mk' (pC L) [] rfl rfl ⟨by dsimp only;omega,G,by dsimp only;omega,by dsimp only;omega,.inl ZbW,λ_=>rfl,by simp,by simp;omega,by simp;omega⟩
 rw[Yai C];by_cases I:N%13=10
 .rw [Yan I]
  exact ClOk.mk' [] _ rfl rfl ⟨by dsimp only;omega,PB.nil,by dsimp only;omega,by dsimp only;omega,.inl ZbW,λ_=>rfl,by simp,by simp,by simp⟩
 rw[Yai I];by_cases F:N%13=11\/N%13=12
 .rw [Yan F]
  exact Zkp
 rw[Yai F];exact Zkp
section
variable {kind kind' n n' d d' r r':Int} {P P':List Tm} {o o':List (Nat->Int)} {s s':List Int} {b b':List (Nat->RQ×RQ)}
end
def FC(p:List Tm):List (List Tm)->Nat
 |[]=>0
 |q::l=>if CW q p<0 then FC p l+1 else 0
theorem Vk(p:List Tm):∀l,FC p l<=l.length
 |[]=>Yah _
 |q::l=>by
  unfold FC;split
  .have:=Vk p l;exact Zip
  .exact Yaw _
theorem Vj(p:List Tm):∀{l:List (List Tm)} {k:Nat},k<FC p l->CW (l.getD k default) p<0
 |[],k,h=>by simp[FC]at h
 |q::l,0,h=>by
  unfold FC at h;split at h
  .assumption
  .omega
 |q::l,k+1,h=>by
  unfold FC at h;split at h
  .exact Vj p (l:=l) ZbD
  .omega
theorem Vl(p:List Tm):∀{l:List (List Tm)},FC p l<l.length->¬CW (l.getD (FC p l) default) p<0
 |[],h=>by simp[FC]at h
 |q::l,h=>by
  unfold FC at h ⊢;split at h
  .rename_i A
   rw[Yan A];simp only[Ydm];exact Vl p (l:=l) Zdi
  .rename_i A
   rw[Yai A];exact A
noncomputable def GH (plain:Bool) (out:List (List Tm)) (p:List Tm):List (List Tm):=
 if p.length=0\/(plain=true/\HV p=0)\/(FC p out<out.length/\JF (out.getD (FC p out) default) p=true)then out else out.take (FC p out)++p::out.drop (FC p out)
noncomputable def KI (plain:Bool) (L:List (List Tm)) (k:Nat):List (List Tm):=(L.take k).foldl (λout P=>GH plain out (DX P)) []
theorem JC(plain:Bool)(L:List (List Tm))(h:n<L.length):KI plain L (n+1)=GH plain (KI plain L n) (DX (L.getD n default)):=by
 unfold KI;rw[YcO,Yeu,Yac h,Yab,Yac h];rfl
noncomputable abbrev Jp (plain:Bool) (L:List (List Tm)):List (List Tm):=KI plain L L.length
theorem A5x(plain:Bool)(out:List (List Tm))(p:List Tm):(GH plain out p).length<=out.length+1:=by
 unfold GH;split
 .omega
 .exact Zip
theorem KH(plain:Bool)(L:List (List Tm)):∀k,k<=L.length->(KI plain L k).length<=k
 |0,_=>by simp[KI]
 |k+1,h=>by
  rw[JC plain L ZbD];have A:=A5x plain (KI plain L k) (DX (L.getD k default));have B:=KH plain L k ZbD;omega
theorem A5w(h:uh∈GH p vM vb):uh=vb\/uh∈vM:=by
 unfold GH at h;split at h
 .exact .inr h
 .rcases YbP.1 h with h | h
  .exact .inr (Ybr h)
  .rcases YaK.1 h with h | h
   .exact .inl h
   .exact .inr (Ych h)
theorem Ni{plain:Bool}{L:List (List Tm)}{q:List Tm}:∀{k},k<=L.length->q∈KI plain L k->∃P∈L,q=DX P
 |0,_,h=>by simp[KI]at h
 |k+1,C,h=>by
  rw[JC plain L ZbD]at h;rcases A5w h with h | h
  .refine ⟨_,?_,h⟩
   rw[Yab,Yac ZbD];exact Zkq
  .exact Ni ZbD h
theorem A0d(h:PB vb 3 9 2):PSz (DX vb) 1000/\PIn (DX vb) 0 65535/\(DX vb).length<=3:=by
 refine⟨?_,?_,by rw[Nr];exact h.len⟩
 .unfold DX
  split
  .intro t M;cases M
  .rename_i c
   have A:=Ns vb h.sz h.can ZbD;have B:=UO (m:=λ_=>0) A h.sz;exact B.mono (by have:=h.len;have:vb.length*9<=3*9:=YaB 9 h.len;omega)
 .unfold DX
  split
  .intro t M;cases M
  .intro t M
   obtain⟨s,Y,rfl⟩:=YaA.1 M;have:=(h.ex.mono (YbL 0) (show(2:Int)<=65535 by decide)) s Y;rw[show(λ_:Nat=>(0:Int))=(λ_=>0)from rfl];simpa[Hg]using this
theorem SA(L:List (List Tm))(plain:Bool)(F:∀P∈L,PB P 3 9 2)(J:L.length<=100):Abs prog 61 [Ba L,ex (.bool plain)] (Ba (Jp plain L)):=by
 refine Ab func61 λv=>?_;rw[ntmps61];refine Go ?_;refine AC (λu d=>∃k,k<=L.length/\u=L.length-k/\d=⟨[(0,.d (Ba L)),(1,.d (ex (.bool plain))),(5,.d (Ba (KI plain L k))),(6,.d (ex (.int .i64 (k:Nat))))],[]⟩) ?le ⟨0,by omega,rfl,rfl⟩ ?round
 case le=>exact Ac (by exact Yd<|Yd<|FrLe.cons rfl (Is rfl (D.le.refl _))<|Yd<|FrLe.nil) Zcc
 case round=>
  rintro u _ ⟨k,C,rfl,rfl⟩;by_cases Q:k<L.length
  .have M:=F _ (show L.getD k default∈L by rw [Yab, Yac Q]; exact Ybt _)
   obtain⟨W,X,y⟩:=A0d M;have e:=KH plain L k ZbD;have B:=YX (L.getD k default) 9 M.sz M.can (M.ex.mono (YbL 0) ZbH) ZbH (Yat M.len ZbH);obtain⟨p,G⟩:∃p,p=DX (L.getD k default):=⟨_,rfl⟩;obtain⟨O,K⟩:∃O,O=KI plain L k:=⟨_,rfl⟩;rw[<-G]at B W X y;rw[<-K]at e ⊢
   have Y:∀q∈O,PSz q 1000/\q.length<=3:=λq l=>by
    rw[K]at l;obtain⟨P,Z,rfl⟩:=Ni ZbD l;exact⟨(A0d (F P Z)).1,(A0d (F P Z)).2.2⟩
   refine Go ?_;have f:=Vk p O;have R:KI plain L (k+1)=GH plain O p:=by rw[JC plain L Q,<-K,<-G]
   have m:=A6b p X ZbD;refine AC (λu d=>∃j,j<=FC p O/\u=O.length-j/\d=⟨[(0,.d (Ba L)),(1,.d (ex (.bool plain))),(5,.d (Ba O)),(6,.d (ex (.int .i64 (k:Nat)))),(7,.d (BS p)),(8,.d (ex (.int .i64 (j:Nat))))],[]⟩) ?le ⟨0,Yaw _,rfl,rfl⟩ ?round
   case le=>exact Ac Zdv Zcc
   case round=>
    rintro u _ ⟨j,a,rfl,rfl⟩;by_cases H:j<FC p O
    .have I:=Vj p H
     have x:=Y (O.getD j default) (by rw[Yab,Yac ZbD];exact Ybt _);have E:=Uy (O.getD j default) p (x.1.mono ZbH) (W.mono ZbH) ZbD ZbD;refine Go ?_;refine Ah (O.length-(j+1)) ZbD ⟨j+1,by omega,rfl,rfl⟩ ?_;exact Ac Zdv Zcc
    .obtain rfl:j=FC p O:=by omega
     by_cases N:FC p O<O.length
     .have I:=Vl p N
      have x:=Y (O.getD (FC p O) default) (by rw[Yab,Yac N];exact Ybt _);have E:=Uy (O.getD (FC p O) default) p (x.1.mono ZbH) (W.mono ZbH) ZbD ZbD;have A:=A0I (O.getD (FC p O) default) p;by_cases S:p.length=0
      .exact Zbs
      cases plain with
      |true=>
       by_cases c:HV p=0
       .exact Zbt
       cases V:JF (O.getD (FC p O) default) p with
       |true=>
        rw[V]at A;have r:O=GH true O p:=by rw[GH,Yan (.inr (.inr ⟨N,V⟩))]
        refine Zfy ?_;exact Ac Zcy Zcc
       |false=>
        rw[V]at A;have r:O.take (FC p O)++p::O.drop (FC p O)=GH true O p:=by rw[GH,Yai (by rintro(h | ⟨h,b⟩ | ⟨h,b⟩);exact S h;exact c b;(rw[V]at b;cases b))]
        refine Ai<|Y1<|Wm<|Wm ?_;refine Wq BK ?_;refine Wq Bb ?_;refine Wm ?_;refine Wg AQ ?_;refine Wg AQ ?_;refine Wg Dq ?_;refine Wg AT ?_;refine Wg AQ ?_;refine Wg (AK (E)) ?_;refine Wg AN ?_;refine Wq Cz ?_;refine Y0<|Cf<|Cg<|BE<|BR<|BH<|Yn<|Ai<|Y1<|Wm ?_;refine Wq BK ?_;refine Wq AN ?_;refine Wm ?_;refine Wg AQ ?_;refine Wg AQ ?_;refine Wg AQ ?_;refine Wg (AK (m)) ?_;refine Wg AN ?_;refine Wg Cz ?_;refine Wq BT ?_;refine Wm ?_;refine Wg AQ ?_;refine Wg AQ ?_;refine Wg BK ?_;refine Wg Bb ?_;refine Wg AQ ?_;refine Wg AQ ?_;refine Wg AQ ?_;refine Wg Dq ?_;refine Wg AT ?_;refine Wg AQ ?_;refine Wg (AK (A)) ?_;refine Wg Cz ?_;refine Wq BT ?_;refine Y0<|Cf<|Ys<|Y1<|Wm ?_;(refine De rfl rfl ?_;refine Mi (Aa rfl) (Aa rfl) rfl rfl rfl rfl rfl ?_;refine⟨_,PartOk.one rfl (by exact CX),?_⟩;refine⟨_,rfl,?_⟩;refine⟨_,rfl,?_⟩);refine Wm<|Wm ?_;refine Wq NO ?_;refine Wq (Jk (ao rfl) rfl (Aa rfl) (Aa rfl) rfl Zcz Zcz) ?_;refine Wa<|Y0<|AWp.region<|Wm<|Wm<|Wm ?_;refine Wq (Mb rfl (Aa rfl) (Aa rfl) rfl (ao rfl) (ao rfl) Zip) ?_;refine Wm ?_;refine Wq (Jk (ao rfl) rfl (Aa rfl) (Aa rfl) rfl Zcz Zcz) ?_;refine Wa<|AWl.nil<|Bh<|Yn<|AWp.region<|Wm ?_;refine Wq CJ ?_;refine Wa<|AWl.nil ?_
        exact Zge
      |false=>
       cases V:JF (O.getD (FC p O) default) p with
       |true=>
        rw[V]at A;have r:O=GH false O p:=by rw[GH,Yan (.inr (.inr ⟨N,V⟩))]
        refine Zfy ?_;exact Ac Zcy Zcc
       |false=>
        rw[V]at A;have r:O.take (FC p O)++p::O.drop (FC p O)=GH false O p:=by rw[GH,Yai (by rintro(h | ⟨h,b⟩ | ⟨h,b⟩);exact S h;cases h;(rw[V]at b;cases b))]
        refine Ai<|Y1<|Wm<|Wm ?_;refine Wq BK ?_;refine Wq Bb ?_;refine Wm ?_;refine Wg AQ ?_;refine Wg AQ ?_;refine Wg Dq ?_;refine Wg AT ?_;refine Wg AQ ?_;refine Wg (AK (E)) ?_;refine Wg AN ?_;refine Wq Cz ?_;refine Y0<|Cf<|Cg<|BE<|BR<|BH<|Yn<|Ai<|Y1<|Wm ?_;refine Wq BK ?_;refine Wq AN ?_;refine Wm ?_;refine Wg AQ ?_;refine Wg AQ ?_;refine Ws ?_;refine Ws ?_;refine Ws ?_;refine Wg BT ?_;refine Wq BT ?_;refine Wm ?_;refine Wg AQ ?_;refine Wg AQ ?_;refine Wg BK ?_;refine Wg Bb ?_;refine Wg AQ ?_;refine Wg AQ ?_;refine Wg AQ ?_;refine Wg Dq ?_;refine Wg AT ?_;refine Wg AQ ?_;refine Wg (AK (A)) ?_;refine Wg Cz ?_;refine Wq BT ?_;refine Y0<|Cf<|Ys<|Y1<|Wm ?_;(refine De rfl rfl ?_;refine Mi (Aa rfl) (Aa rfl) rfl rfl rfl rfl rfl ?_;refine⟨_,PartOk.one rfl (by exact CX),?_⟩;refine⟨_,rfl,?_⟩;refine⟨_,rfl,?_⟩);refine Wm<|Wm ?_;refine Wq NO ?_;refine Wq (Jk (ao rfl) rfl (Aa rfl) (Aa rfl) rfl Zcz Zcz) ?_;refine Wa<|Y0<|AWp.region<|Wm<|Wm<|Wm ?_;refine Wq (Mb rfl (Aa rfl) (Aa rfl) rfl (ao rfl) (ao rfl) Zip) ?_;refine Wm ?_;refine Wq (Jk (ao rfl) rfl (Aa rfl) (Aa rfl) rfl Zcz Zcz) ?_;refine Wa<|AWl.nil<|Bh<|Yn<|AWp.region<|Wm ?_;refine Wq CJ ?_;refine Wa<|AWl.nil ?_
        exact Zge
     .by_cases S:p.length=0
      .exact Zbs
      cases plain with
      |true=>
       by_cases c:HV p=0
       .exact Zbt
       have r:O.take (FC p O)++p::O.drop (FC p O)=GH true O p:=by rw[GH,Yai (by rintro(h | ⟨h,b⟩ | ⟨h,b⟩);exact S h;exact c b;exact N h)]
       refine Ai<|Y1<|Wm<|Wm ?_;refine Wq BK ?_;refine Wq AN ?_;refine Wm ?_;refine Ws ?_;refine Ws ?_;refine Ws ?_;refine Ws ?_;refine Ws ?_;refine Ws ?_;refine Ws ?_;refine Wq BT ?_;refine Y0<|Cf<|Cg<|BE<|BR<|BH<|Yn<|Ai<|Y1<|Wm ?_;refine Wq BK ?_;refine Wq AN ?_;refine Wm ?_;refine Wg AQ ?_;refine Wg AQ ?_;refine Wg AQ ?_;refine Wg (AK (m)) ?_;refine Wg AN ?_;refine Wg Cz ?_;refine Wq BT ?_;refine Wm ?_;refine Wg AQ ?_;refine Wg AQ ?_;refine Wg BK ?_;refine Wg AN ?_;refine Wg AQ ?_;refine Ws ?_;refine Ws ?_;refine Ws ?_;refine Ws ?_;refine Ws ?_;refine Ws ?_;refine Wg BT ?_;refine Wq BT ?_;refine Y0<|Cf<|Ys<|Y1<|Wm ?_;(refine De rfl rfl ?_;refine Mi (Aa rfl) (Aa rfl) rfl rfl rfl rfl rfl ?_;refine⟨_,PartOk.one rfl (by exact CX),?_⟩;refine⟨_,rfl,?_⟩;refine⟨_,rfl,?_⟩);refine Wm<|Wm ?_;refine Wq NO ?_;refine Wq (Jk (ao rfl) rfl (Aa rfl) (Aa rfl) rfl Zcz Zcz) ?_;refine Wa<|Y0<|AWp.region<|Wm<|Wm<|Wm ?_;refine Wq (Mb rfl (Aa rfl) (Aa rfl) rfl (ao rfl) (ao rfl) Zip) ?_;refine Wm ?_;refine Wq (Jk (ao rfl) rfl (Aa rfl) (Aa rfl) rfl Zcz Zcz) ?_;refine Wa<|AWl.nil<|Bh<|Yn<|AWp.region<|Wm ?_;refine Wq CJ ?_;refine Wa<|AWl.nil ?_
       exact Zge
      |false=>
       have r:O.take (FC p O)++p::O.drop (FC p O)=GH false O p:=by rw[GH,Yai (by rintro(h | ⟨h,b⟩ | ⟨h,b⟩);exact S h;cases h;exact N h)]
       refine Ai<|Y1<|Wm<|Wm ?_;refine Wq BK ?_;refine Wq AN ?_;refine Wm ?_;refine Ws ?_;refine Ws ?_;refine Ws ?_;refine Ws ?_;refine Ws ?_;refine Ws ?_;refine Ws ?_;refine Wq BT ?_;refine Y0<|Cf<|Cg<|BE<|BR<|BH<|Yn<|Ai<|Y1<|Wm ?_;refine Wq BK ?_;refine Wq AN ?_;refine Wm ?_;refine Wg AQ ?_;refine Wg AQ ?_;refine Ws ?_;refine Ws ?_;refine Ws ?_;refine Wg BT ?_;refine Wq BT ?_;refine Wm ?_;refine Wg AQ ?_;refine Wg AQ ?_;refine Wg BK ?_;refine Wg AN ?_;refine Wg AQ ?_;refine Ws ?_;refine Ws ?_;refine Ws ?_;refine Ws ?_;refine Ws ?_;refine Ws ?_;refine Wg BT ?_;refine Wq BT ?_;refine Y0<|Cf<|Ys<|Y1<|Wm ?_;(refine De rfl rfl ?_;refine Mi (Aa rfl) (Aa rfl) rfl rfl rfl rfl rfl ?_;refine⟨_,PartOk.one rfl (by exact CX),?_⟩;refine⟨_,rfl,?_⟩;refine⟨_,rfl,?_⟩);refine Wm<|Wm ?_;refine Wq NO ?_;refine Wq (Jk (ao rfl) rfl (Aa rfl) (Aa rfl) rfl Zcz Zcz) ?_;refine Wa<|Y0<|AWp.region<|Wm<|Wm<|Wm ?_;refine Wq (Mb rfl (Aa rfl) (Aa rfl) rfl (ao rfl) (ao rfl) Zip) ?_;refine Wm ?_;refine Wq (Jk (ao rfl) rfl (Aa rfl) (Aa rfl) rfl Zcz Zcz) ?_;refine Wa<|AWl.nil<|Bh<|Yn<|AWp.region<|Wm ?_;refine Wq CJ ?_;refine Wa<|AWl.nil ?_
       exact Zge
  .obtain rfl:k=L.length:=by omega
   exact Zfu
section
variable {P:Program} {hp:List Ow} {arg:Operand->AV} {dd:Option Tmp} {ty:TypeId} {ps:String} {af:Array Edge} {gd:Option (Nat×Bool)}
theorem A2m{k:IntKind}{a b r:Int}(E:arg x=.d (ex (.int k a)))(O:arg y=.d (ex (.int k b)))(X:Min.min a b=r):Quiet P hp ⟨dd,.call { callee:=.builtin .min,args:=#[x,y],argTypes:=vt },ty,ps,af,gd⟩ arg (.d (ex (.int k r))):=X▸WB E O
theorem A88{A n b g C T k i j:Nat}{d:TypeDesc}{f:e->List D}{l:List e}(E:HW hp (arg x)=some (slD T k (l.map f)))(O:arg y=.d (ex (.int .i64 (i:Nat))))(W:arg vS=.d (ex (.int .i64 (j:Nat))))(M:Tab P t (.slice A) n b z)(B:Tab P A d g C u)(F:g=k)(hi:i<=j)(a:j<=l.length):Quiet P hp ⟨dd,.slice t x (some y) (some vS) none,ty,ps,af,gd⟩ arg (.d (slD T k (((l.take j).drop i).map f))):=by
 have h:=A6g (P:=P) (hp:=hp) (arg:=arg) (dd:=dd) (ty:=ty) (ps:=ps) (af:=af) (gd:=gd) (lo:=some y) (hi:=some vS) (i:=(i:Nat)) (j:=(j:Nat)) E M B F (.inl ⟨y,rfl,O⟩) (.inl ⟨vS,rfl,W⟩) ZbD ZbD (by rw[Yar];omega);rw[show((j:Nat):Int).toNat=j from rfl,show((i:Nat):Int).toNat=i from rfl,<-YdU,<-YdT]at h;exact h
end
def nK(L:List (Nat×List (Nat->Int)))(V:List Int):Nat:=min (AZ L).length (1+AR V 0%2).toNat
noncomputable def GN (L:List (Nat×List (Nat->Int))) (V:List Int):Cor:=
 ⟨2,rQ (Jp false ((AZ L).take (nK L V))),rQ (Jp true (((AZ L).take (min (AZ L).length (nK L V+1))).drop (nK L V)))⟩
theorem WH(T o:Nat)(N:Nat)(L:List (Nat×List (Nat->Int)))(p:Tc L)(V:List Int)(e:I8 V)(J:V.length<=9223372036854775807):Abs prog 23 [AP (He T o N L V)] (AP (Eb (GN L V))):=by
 have q:=Ez T L p;have B:=CH o V e 0 ZbH J;have z:=Vh L
 have l:(AZ L).length<=6:=by
  exact ZhK
 have A:=Cj e 0;rw[show Eb (GN L V)=[ex (.int .i64 2),Ba (Jp false ((AZ L).take (nK L V))),Ba (Jp true (((AZ L).take (min (AZ L).length (nK L V+1))).drop (nK L V)))]by rw[EZ,EZ];rfl];obtain⟨n,f⟩:∃n,n=nK L V:=⟨_,rfl⟩;have j:((n:Nat):Int)=min (((AZ L).length:Nat):Int) (1+AR V 0%2):=by rw[f,nK];omega
 have i:n<=(AZ L).length:=by omega
 rw[<-f];obtain⟨Q,h⟩:∃Q,Q=AZ L:=⟨_,rfl⟩;rw[<-h]at q z l j i ⊢;clear h f;have U:=SA (Q.take n) false (λP M=>z P (Ybr M)) ZgN;have E:=SA ((Q.take (min Q.length (n+1))).drop n) true (λP M=>z P (Ybr (Ych M))) ZeU;refine Ab func23 λv=>?_;rw[ntmps23];refine Go ?_;refine Wq (Ey 1 rfl rfl ZbD) ?_;refine Wq Wn ?_;refine Wq (A2m (r:=((n:Nat):Int)) (ao rfl) (ao rfl) ZbD) ?_;refine Go ?_;refine Dy 14 ?_;refine Xq AQ ?_;refine Xq AQ ?_;refine Xq (NX rfl rfl (Aa rfl) (Aa rfl) rfl i) ?_;refine Xq (AK (U)) ?_;refine Xq AQ ?_;refine Xq AQ ?_;refine Xq AQ ?_;refine Xq BK ?_;refine Xq AQ ?_;refine Xq CJ ?_;refine Xq (A2m (r:=((min Q.length (n+1):Nat):Int)) rfl rfl ZbD) ?_;refine Xq (A88 rfl rfl rfl (Aa rfl) (Aa rfl) rfl ZbD ZbD) ?_;refine Xq (AK (E)) ?_;(refine Hq rfl ?_;refine AI (Aa rfl) rfl rfl rfl ?_;(repeat ((first | refine⟨_,Aw (ah rfl),?_⟩ | refine⟨_,Po rfl,?_⟩);refine⟨_,rfl,?_⟩));refine⟨_,rfl,?_⟩;refine⟨_,rfl,?_⟩);refine⟨_,rfl,?_⟩;exact ZfA
section
variable {P:Program} {hp:List Ow} {arg:Operand->AV} {dd:Option Tmp} {ty:TypeId} {ps:String} {af:Array Edge} {gd:Option (Nat×Bool)}
theorem A87{T U:TypeId}{a b c:Nat}(E:arg x=.d (ex (.int .i64 (a:Nat))))(O:arg y=.d (ex (.int .i64 (b:Nat))))(I:a*b=c)(h:c<=1000000):Quiet P hp ⟨dd,.binOp .mul T x y U,ty,ps,af,gd⟩ arg (.d (ex (.int .i64 (c:Nat)))):=by
 subst I;have e:((a:Int)*(b:Int))=((a*b:Nat):Int):=by simp
 have A:=WA (P:=P) (hp:=hp) (dd:=dd) (ty:=ty) (ps:=ps) (af:=af) (gd:=gd) (T:=T) (U:=U) E O (by rw[e];omega) (by rw[e];omega);rw[e]at A;exact A
end
def Fv(L:List (List (List Tm))):D:=slD 24 1 (L.map λQ=>[Ba Q])
theorem Nf(L:List (List (List Tm))):Fv L=SY (L.map rQ):=by
 unfold Fv SY;rw[Ycc];congr 1;exact YaX λQ _=>by rw[EZ];rfl
def Gz(Q:List (List Tm))(c k:Nat):List (List (List Tm)):=(List.range k).map λi=>pQ Q (i*c) c
theorem JL(Q:List (List Tm))(r c:Nat)(X:r<=100)(I:c<=100)(J:Q.length<=9223372036854775807):Abs prog 114 [Ba Q,ex (.int .i64 (r:Nat)),ex (.int .i64 (c:Nat))] (Fv (Gz Q c r)):=by
 obtain⟨F,hF⟩:∃F:Nat->List (List Tm),F=λi=>pQ Q (i*c) c:=⟨_,rfl⟩;rw[show Gz Q c r=(List.range r).map F by rw[hF];rfl];have M:∀k,(List.range (k+1)).map F=(List.range k).map F++[F k]:=λk=>by rw[Ycv,Ycg];rfl
 refine Ab func114 λv=>?_;rw[ntmps114];refine Go ?_;refine AC (λu d=>∃k,k<=r/\u=r-k/\d=⟨[(0,.d (Ba Q)),(1,.d (ex (.int .i64 (r:Nat)))),(2,.d (ex (.int .i64 (c:Nat)))),(7,.own 0),(8,.d (ex (.int .i64 (k:Nat))))],[.row 24 1 (((List.range k).map F).map λP=>[Ba P])]⟩) ?le ⟨0,by omega,rfl,rfl⟩ ?round
 case le=>exact Ac ZcN Zdw
 case round=>
  rintro u _ ⟨k,C,rfl,rfl⟩;by_cases A:k<r
  .have V:k*c<=10000:=Yat (YaW (show k<=100 by omega) I) ZbH
   have n:Abs prog 62 [Ba Q,ex (.int .i64 ((k*c:Nat):Int)),ex (.int .i64 (c:Nat))] (Ba (F k)):=by
    rw[hF];exact Eu Q (k*c) c ZbD ZbD J
   refine Ai<|Y1<|Wm<|Wm ?_;refine Wq Bb ?_;refine Y0<|Ct<|Ys<|Ai<|AWp.block<|AWp.region<|Wm<|Wm<|Wm<|Wm ?_;refine Wq (A87 (c:=k*c) (ao rfl) (ao rfl) rfl ZbD) ?_;refine Wm ?_;refine Wq (AK (n)) ?_;(refine De rfl rfl ?_;(refine DF (Aa rfl) (Aa rfl) rfl rfl rfl rfl rfl ?_;(repeat ((first | refine⟨_,Aw (ao rfl),?_⟩ | refine⟨_,Po rfl,?_⟩);refine⟨_,rfl,?_⟩));refine⟨_,rfl,?_⟩));(refine EA (ao rfl) rfl rfl (Aa rfl) (Aa rfl) rfl rfl Zcz Zcz rfl ZbJ rfl ?_);refine Wa<|AWl.nil<|Bh<|Yn<|AWp.region<|Wm ?_;refine Wq CJ ?_;refine Wa<|AWl.nil ?_
   refine Ah (r-(k+1)) ZbD ⟨k+1,by omega,rfl,rfl⟩ ?_;exact Ac ZcN (by(refine HpLe.cons (OwLe.row (by rw[M,Ycg];rfl)) ?_);exact HpLe.nil)
  .obtain rfl:k=r:=by omega
   exact Zfu
def Qp(Q:List Rat):D:=slD 111 4 (Q.map DA)
theorem A4Q(Q:List Rat):Qp Q=GY (Q.map LJ):=by
 unfold Qp GY;rw[Ycc];rfl
def UN(Q:List Rat):Nat->Nat
 |0=>0
 |n+1=>if Q.getD n default=0 then UN Q n else n+1
theorem A4o(Q:List Rat):∀n,UN Q n<=n
 |0=>Yah 0
 |n+1=>by
  unfold UN;have:=A4o Q n;split<;>omega
theorem A3k(Q:List Rat)(R:Q.length<=100000):Abs prog 217 [Qp Q] (Qp (Q.take (UN Q Q.length))):=by
 refine Ab func217 λv=>?_;rw[ntmps217];refine Go ?_;refine AC (λu d=>∃M,M<=Q.length/\UN Q M=UN Q Q.length/\u=M/\d=⟨[(0,.d (Qp Q)),(3,.d (ex (.int .i64 (M:Nat))))],[]⟩) ?le ⟨Q.length,Yah _,rfl,rfl,rfl⟩ ?round
 case le=>exact Ac (by exact Yd<|Yd<|FrLe.nil) Zcc
 case round=>
  rintro u _ ⟨M,k,A,rfl,rfl⟩;by_cases c:u=0
  .have E:UN Q Q.length=u:=by rw [<-A, c];rfl
   rw[E];exact Zfu
  .have B:u-1<Q.length:=by omega
   have f:1<=u:=by omega
   have Z:u=(u-1)+1:=by omega
   have C:=Gr (Q.getD (u-1) default);by_cases o:Q.getD (u-1) default=0
   .have s:(Q.getD (u-1) default).num.sign=0:=DH.2 o
    have H:UN Q (u-1)=UN Q Q.length:=by rw[<-A,Z,UN,YbV,Yan o]
    refine Go ?_;refine Ah (u-1) ZbD ⟨u-1,by omega,H,rfl,rfl⟩ ?_;exact Ac (by exact Yd<|Yd<|FrLe.nil) Zcc
   .have s:¬(Q.getD (u-1) default).num.sign=0:=λh=>o (DH.1 h)
    have H:UN Q Q.length=u:=by rw[<-A,Z,UN,Yai o]
    rw[H];exact Zfu
def Ta(V:List Int)(n:Nat):List Rat:=(V.take (n+1)).map λz:Int=>(z:Rat)
def KC(V:List Int)(n:Nat):List Rat:=(Ta V n).take (UN (Ta V n) (Ta V n).length)
theorem LY(T:Nat)(V:List Int)(e:I8 V)(n:Nat)(f:n<=100)(J:V.length<=9223372036854775807):Abs prog 116 [Ol T V,ex (.int .i64 (n:Nat))] (Qp (KC V n)):=by
 have r:∀k,k<V.length->((V.take (k+1)).map λz:Int=>(z:Rat)).map DA=((V.take k).map λz:Int=>(z:Rat)).map DA++[DA ((V.getD k default:Int):Rat)]:=λk C=>by
  rw[YcO,Ycg,Ycg,Yab,Yac C];rfl
 have X:=A3k (Ta V n) (by rw[Ta,Yar,YaO];omega);have A:V.take (min V.length (n+1))=V.take (n+1):=by rw[Nat.min_comm,<-List.take_eq_take_min]
 refine Ab func116 λv=>?_;rw[ntmps116];refine Go ?_;refine AC (λu d=>∃k,k<=min V.length (n+1)/\u=min V.length (n+1)-k/\d=⟨[(0,.d (Ol T V)),(1,.d (ex (.int .i64 (n:Nat)))),(5,.own 0),(6,.d (ex (.int .i64 (k:Nat))))],[.row 111 4 (((V.take k).map λz:Int=>(z:Rat)).map DA)]⟩) ?le ⟨0,by omega,rfl,rfl⟩ ?round
 case le=>exact Ac Zew Zdw
 case round=>
  rintro u _ ⟨k,C,rfl,rfl⟩;by_cases Q:k<min V.length (n+1)
  .have S:k<V.length:=by omega
   have o:-128<=V.getD k default/\V.getD k default<=127:=e _ ZdP;have B:=EX (V.getD k default) ZbD ZbD;refine Ai<|Y1<|Wm<|Wm ?_;refine Wq BK ?_;refine Wq Bb ?_;refine Wm ?_;refine Wg AQ ?_;refine Wg AQ ?_;refine Wg Bb ?_;refine Wq Cz ?_;refine Y0<|Ct<|Ys<|Ai<|AWp.block<|AWp.region<|Wm<|Wm<|Wm ?_;refine Wq Dq ?_;refine Wq AT ?_;refine Wq (GE (ao rfl) (Aa rfl) (Aa rfl) ZbD ZbD) ?_;refine Wq (AK (B)) ?_;refine Wq (Cb (ao rfl) (Aa rfl) (Aa rfl) rfl rfl rfl rfl rfl) ?_;(refine Ap ?_);refine Wa<|AWl.nil<|Bh<|Yn<|AWp.region<|Wm ?_;refine Wq CJ ?_;refine Wa<|AWl.nil ?_
   refine Ah (min V.length (n+1)-(k+1)) ZbD ⟨k+1,by omega,rfl,rfl⟩ ?_;exact Ac Zew (by exact HpLe.cons (OwLe.row (r k S).symm)<|HpLe.nil)
  .have Z:((V.take k).map λz:Int=>(z:Rat))=Ta V n:=by
    rw[Ta];congr 1;rw[show k=min V.length (n+1)by omega,A]
   rw[Z];by_cases S:k<V.length
   .obtain rfl:k=min V.length (n+1):=by omega
    refine Ai<|Y1<|Wm<|Wm ?_;refine Wq BK ?_;refine Wq Bb ?_;refine Wm ?_;refine Wg AQ ?_;refine Wg AQ ?_;refine Wg AN ?_;refine Wq Cz ?_;refine Y0<|Cf<|Cg<|BE<|BR<|BH<|Yn<|Y1<|Wm ?_
    refine Bj (σ':=⟨[(28,.d (Qp (Ta V n)))],[]⟩) ?wk1 ?_
    case wk1=>exact Ac ZeF Zcc
    refine Go ?_;exact Yf
   .obtain rfl:k=min V.length (n+1):=by omega
    refine Ai<|Y1<|Wm<|Wm ?_;refine Wq BK ?_;refine Wq AN ?_;refine Wm ?_;refine Ws ?_;refine Ws ?_;refine Ws ?_;refine Wq BT ?_;refine Y0<|Cf<|Cg<|BE<|BR<|BH<|Yn<|Y1<|Wm ?_
    refine Bj (σ':=⟨[(28,.d (Qp (Ta V n)))],[]⟩) ?wk2 ?_
    case wk2=>exact Ac ZeF Zcc
    refine Go ?_;exact Yf
abbrev Ao:D:=ex (.slice none 0 0)
abbrev i0D:D:=ex (.int .i64 0)
abbrev EJ(n:Int)(H g o c q s a P x b:D):List D:=[ex (.int .i64 n),H,g,o,c,q,s,i0D,i0D,i0D,i0D,i0D,i0D,i0D,i0D,Ao,Ao,Ao,Ao,Ao,Ao,Ao,Ao,Ao,a,P,x,b]
theorem AaX(h:n<=3):IntKind.i64.wrap ((n:Int)*((n:Int)-1))=((n*(n-1):Nat):Int):=by
 rcases(by omega:n=0\/n=1\/n=2\/n=3)with rfl | rfl | rfl | rfl<;>rfl
theorem A8v(n:Nat)(h:n<=1000):IntKind.i64.wrap (((n:Nat):Int).tdiv 2)=((n/2:Nat):Int):=by
 rw[YbS ZbD];have e:((n:Nat):Int)/2=((n/2:Nat):Int):=by omega
 rw[e];exact Zgd
theorem A4d{z r:Int}(h:z=r)(B:0<=r/\r<=1000000):IntKind.i64.wrap z=r:=by
 subst h;exact Zgd
theorem AaW(O:j=(n:Int))(h:a=(n:Int)+1)(I:n<=12):IntKind.i64.wrap (j*a)=((n*(n+1):Nat):Int):=by
 subst O;have B:n*(n+1)<=12*13:=YaW I ZbD;refine A4d ?_ ZbD;rw[h];simp
theorem A4k(h:n<256):IntKind.u8.wrap ((n:Nat):Int)=((n:Nat):Int):=by
 rw[A4m];omega
theorem A0w(Q:List (List Tm))(g m:Nat)(P:g<=3)(x:m<=100)(J:Q.length<=9223372036854775807):Abs prog 115 [AP (EJ 0 Ao Ao Ao Ao Ao Ao Ao Ao Ao Ao),Ba Q,ex (.int .i64 (g:Nat)),ex (.int .i64 (m:Nat)),ex (.bool false)] (AP (EJ 0 Ao (Ba (pQ Q 0 g)) (Ep (CS g)) (Fv (Gz Q m g)) Ao Ao Ao Ao Ao Ao)):=by
 have n:=Eu Q 0 g ZbH ZbD J;have h:=Pc g ZbD;have X:=JL Q g m ZbD x J;refine Ab func115 λv=>?_;rw[ntmps115];apply Y1;refine Bx ?_;refine Al ?_;refine Y0<|Y1<|Wm<|Wm ?_;refine Wq (AK (n)) ?_;refine Wm ?_;refine Wq (AO (r:=((g:Nat):Int)) (ao rfl) (Aa rfl) (Aa rfl) (A4k ZbD)) ?_;refine Wq (AK (h)) ?_;refine Wm<|Wm<|Wm ?_;refine Wq (AK (X)) ?_;refine Wq AB ?_;refine Dd (ao rfl) (ao rfl) rfl (Aa rfl) ZbU rfl rfl ?_;refine Wq AB ?_;refine Dd (ao rfl) (ao rfl) rfl (Aa rfl) ZbU rfl rfl ?_;refine Wq AB ?_;refine Dd (ao rfl) (ao rfl) rfl (Aa rfl) ZbU rfl rfl ?_;refine Y0<|Ai<|Y1<|Wm<|Y0<|Cf<|Ys<|Y1 ?_;refine Wq AH ?_;refine Sf ?_;refine Y0<|BV ?_
 exact ZjQ
theorem MQ(Q:List (List Tm))(g m:Nat)(P:g<=3)(x:m<=100)(J:Q.length<=9223372036854775807):Abs prog 115 [AP (EJ 0 Ao Ao Ao Ao Ao Ao Ao Ao Ao Ao),Ba Q,ex (.int .i64 (g:Nat)),ex (.int .i64 (m:Nat)),ex (.bool true)] (AP (EJ 0 Ao (Ba (pQ Q 0 g)) (Ep (CS g)) (Fv (Gz Q m g)) (Fv (Gz Q g m)) (Fv (Gz Q g (g*(g-1)/2))) Ao Ao Ao Ao)):=by
 have n:=Eu Q 0 g ZbH ZbD J;have h:=Pc g ZbD;have X:=JL Q g m ZbD x J;have G:=JL Q m g x ZbD J;have f:g*(g-1)<=3*3:=YaW P (show g-1<=3 by omega);have L:=JL Q (g*(g-1)/2) g ZbD ZbD J;refine Ab func115 λv=>?_;rw[ntmps115];apply Y1;refine Bx ?_;refine Al ?_;refine Y0<|Y1<|Wm<|Wm ?_;refine Wq (AK (n)) ?_;refine Wm ?_;refine Wq (AO (r:=((g:Nat):Int)) (ao rfl) (Aa rfl) (Aa rfl) (A4k ZbD)) ?_;refine Wq (AK (h)) ?_;refine Wm<|Wm<|Wm ?_;refine Wq (AK (X)) ?_;refine Wq AB ?_;refine Dd (ao rfl) (ao rfl) rfl (Aa rfl) ZbU rfl rfl ?_;refine Wq AB ?_;refine Dd (ao rfl) (ao rfl) rfl (Aa rfl) ZbU rfl rfl ?_;refine Wq AB ?_;refine Dd (ao rfl) (ao rfl) rfl (Aa rfl) ZbU rfl rfl ?_;refine Y0<|Ai<|Y1<|Wm<|Y0<|Ct<|AWp.region<|Wm<|Wm<|Wm ?_;refine Wq (AK (G)) ?_;refine Wm<|Wm<|Wm ?_;refine Wq A0K ?_;refine Wq (GU (r:=((g*(g-1):Nat):Int)) (ao rfl) (ao rfl) (AaX P)) ?_;refine Wq (GT (r:=((g*(g-1)/2:Nat):Int)) (ao rfl) (ao rfl) ZbH (A8v _ ZbD)) ?_;refine Wm ?_;refine Wq (AK (L)) ?_;refine Wq AB ?_;refine Dd (ao rfl) (ao rfl) rfl (Aa rfl) ZbU rfl rfl ?_;refine Wq AB ?_;refine Dd (ao rfl) (ao rfl) rfl (Aa rfl) ZbU rfl rfl ?_;refine Y0<|Y1 ?_;refine Wq AH ?_;refine Sf ?_;refine Y0<|BV ?_
 exact ZjQ
end
