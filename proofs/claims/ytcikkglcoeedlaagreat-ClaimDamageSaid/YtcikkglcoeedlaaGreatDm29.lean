/- Part 29. No condition. -/
import Derived.Test.YtcikkglcoeedlaaGreatDm18
import Derived.Test.YtcikkglcoeedlaaGreatDm20
import Derived.Test.YtcikkglcoeedlaaGreatDm21
import Derived.Test.YtcikkglcoeedlaaGreatDm23
import Derived.Test.YtcikkglcoeedlaaGreatDm27
import Derived.Test.YtcikkglcoeedlaaGreatDm28
set_option linter.all false
set_option maxRecDepth 100000
set_option maxHeartbeats 4000000
namespace Go.Proofs.YtcikkglcoeedlaaGreat
open _root_.Go.Proofs.Tryz
variable{vt:Array TypeId}{o:Bool}{r vv uq:D}{a j uB uL:Int}{vN:List (List Tm)}{vc uj:List Tm}{n:Nat}{x y vT:Operand}{t:TypeId}{z u:Value}
section
open Go.RowKit
def KM(f kind n r m:Int):Int:=if f=5 then(if kind=6 then n else 0)else if f=8\/f=6 then(if kind=6 then r else if kind=7\/kind=8 then m else if kind=13 then n else 0)else 0
def KO(f kind n r m:Int):Int:=if f=5 then(if kind=6\/kind=12 then n else -1)else if f=8\/f=6 then(if kind=6 then r else if kind=7\/kind=8 then m else if kind=9 then 0 else if kind=12 then n else -1)else -1
theorem A20(f:Int)(q:D)(x:List (Nat->Int))(c:Clm)(E:c.b.length<=1000000) :
  Abs prog 25 [AP [eI f,q,Er x],AP (EM c)] (FA [eI (KM f c.kind c.n c.r (c.b.length:Nat)),eI (KO f c.kind c.n c.r (c.b.length:Nat))]):=by
 obtain⟨kind,p,n,d,r,o,l,s,b⟩:=c;refine Ab func25 λy=>?_;rw[ntmps25];refine Go ?_;refine CM 0 2 rfl rfl rfl ?_;refine CM 1 3 rfl rfl rfl ?_;refine Go ?_;by_cases K:f=5
 .subst K
  by_cases Z:kind=6
  .exact Zbl
  by_cases Y:kind=12
  .exact Zbm
  exact ZhA
 by_cases i:f=8
 .subst i
  exact Zbn
 by_cases P:f=6
 .subst P
  exact Zbn
 exact ZhA
theorem A0X (a b c d : Int) (w : World) : (do eqGuard .eql 225 x y (.agg #[.int .i64 a, .int .i64 b]) (.agg #[.int .i64 c, .int .i64 d]); binOp .eql 225 (.agg #[.int .i64 a, .int .i64 b]) (.agg #[.int .i64 c, .int .i64 d]) : Sem Value).run prog w = .ok (.bool (a == c && b == d)) w := by
 rw [Sem.run_bind,run_eqGuard_agg (hm:=by kernel_rfl),Result.andThen_ok,run_eql_struct,run_equalIn_struct (ht:=by kernel_rfl) (hp:=by kernel_rfl)];have p : (Tryz.prog.fieldsOf 225).toList = [⟨"lo", 3, 0, false, "", "eliminant/claim", 0⟩, ⟨"hi", 3, 1, false, "", "eliminant/claim", 8⟩] := by kernel_rfl
 rw[p];simp[Op.eqFields,go_sem];by_cases q:a=c<;>by_cases A:b=d<;>simp[q,A]
theorem A8a (a b c d e f : Int) (w : World) : (do eqGuard .neq 222 x y (.agg #[.int .i64 a, .int .i64 b, .int .i64 c]) (.agg #[.int .i64 d, .int .i64 e, .int .i64 f]); binOp .neq 222 (.agg #[.int .i64 a, .int .i64 b, .int .i64 c]) (.agg #[.int .i64 d, .int .i64 e, .int .i64 f]) : Sem Value).run prog w = .ok (.bool (!(a == d && b == e && c == f))) w := by
 obtain⟨i,J⟩:∃i,Tryz.prog.info? 3=some i:=YcC.1 ZbG;have q:=λW=>run_equalIn_array (P:=prog) W 9999 (t:=222) (e:=3) (n:=3) #[.int .i64 a,.int .i64 b,.int .i64 c] #[.int .i64 d,.int .i64 e,.int .i64 f] ZbG J;rw[Sem.run_bind,run_eqGuard_agg (hm:=by kernel_rfl),Result.andThen_ok,run_neq_struct,q];have Y:(List.range 3)=[0,1,2]:=rfl;have B:Tryz.prog.cellsOf 3=1:=by kernel_rfl
 rw[Y,B];simp[Op.eqItems,go_sem];by_cases q:a=d<;>by_cases A:b=e<;>by_cases K:c=f<;>simp[q,A,K]
abbrev in3(a b c:Int):List D:=[eI a,eI b,eI c]
abbrev in2(a b:Int):List D:=[eI a,eI b]
section
variable {hp:List Ow} {arg:Operand->AV} {dd:Option Tmp} {ty:TypeId} {ps:String} {af:Array Edge} {gd:Option (Nat×Bool)}
theorem A4p(C:arg x=.d (AP (in2 a j)))(M:arg y=.d (AP (in2 uB uL))):Quiet prog hp ⟨dd,.binOp .eql 225 x y t,ty,ps,af,gd⟩ arg (.d (eB (a==uB&&j==uL))):=
 Jd rfl C M (λ_ _ h=>Zt (l:=[.int .i64 a,.int .i64 j]) h) (λ_ _ h=>Zt (l:=[.int .i64 uB,.int .i64 uL]) h) λw=>A0X a j uB uL w
theorem Aba{a b c d e f:Int}(C:arg x=.d (AP (in3 a b c)))(M:arg y=.d (AP (in3 d e f))):Quiet prog hp ⟨dd,.binOp .neq 222 x y t,ty,ps,af,gd⟩ arg (.d (eB (!(a==d&&b==e&&c==f)))):=
 Jd rfl C M (λ_ _ h=>Zt (l:=[.int .i64 a,.int .i64 b,.int .i64 c]) h) (λ_ _ h=>Zt (l:=[.int .i64 d,.int .i64 e,.int .i64 f]) h) λw=>A8a a b c d e f w
end
theorem Vh(a b c d:Int):Abs prog 145 [AP (in2 a b),AP (in2 c d)] (eB (decide (b<c)||decide (d<a))):=by
 refine Ab func145 λy=>?_;rw[ntmps145];apply Y1;refine Bx ?_;refine Bx ?_;refine Wa<|Y0 ?_;refine CM 0 2 rfl rfl rfl ?_;refine CM 1 3 rfl rfl rfl ?_;apply Y1;refine Wq AE ?_;refine Wq AT ?_;refine Wq AE ?_;refine Wq AT ?_;refine Wq Ci ?_;refine Wm ?_;refine Wv0 (λT=>AE) ?_;refine Wv1 11 rfl (λT=>AT) ?_;refine Wv0 (λT=>AE) ?_;refine Wv1 13 rfl (λT=>AT) ?_;refine Wv2 12 rfl 14 rfl (λT=>Ci) ?_;refine Wq Ox ?_;refine Wa<|Y0<|BR ?_
 exact Yf
def Ns(s:List Int)(v:Int):Nat:=s.countP λx=>x==v
theorem PE{s:List Int}(h:n<s.length)(v:Int):Ns (s.take (n+1)) v=Ns (s.take n) v+(if s.getD n default=v then 1 else 0):=by
 unfold Ns;rw[YcX,List.countP_append,Yaa,Yab h];simp[List.countP_cons]
theorem A8D(s:List Int)(v:Int):Ns s v<=s.length:=List.countP_le_length
def TL(I kind n d:Int):Int×Int:=if kind=6 then(n,n)else if kind=5 then(if 0<d then(I,I)else if d=0 then(n,n)else(0,0))else if kind=12 then(0,n)else if kind=7\/kind=8 then(0,I-1)else(0,I)
def rlR(I kind n r m:Int):Int×Int:=if kind=6 then(r,r)else if kind=7\/kind=8 then(m,m)else if kind=9 then(0,0)else if kind=13 then(n,I)else(0,I)
theorem SY(c:Clm)(E:c.b.length<=1000000):Abs prog 143 [AP (EM c)] (AP (in2 (TL 1073741824 c.kind c.n c.d).1 (TL 1073741824 c.kind c.n c.d).2)):=by
 obtain⟨kind,p,n,d,r,o,l,s,b⟩:=c;rw[show EM ⟨kind,p,n,d,r,o,l,s,b⟩=[eI kind,Lh p,eI n,eI d,eI r,Er o,Iq l,NR s,Gl b]from rfl];refine Ab func143 λy=>?_;rw[ntmps143];refine Go ?_;refine CM 0 1 rfl rfl rfl ?_;refine Go ?_;by_cases Z:kind=6
 .subst Z
  exact ZfW
 by_cases N:kind=5
 .subst N
  by_cases h:0<d
  .exact Zbo
  by_cases H:d=0
  .exact Zbo
  exact ZfW
 by_cases Y:kind=12
 .subst Y
  exact ZfW
 by_cases k:kind=7
 .subst k
  exact ZfW
 by_cases q:kind=8
 .subst q
  exact ZfW
 exact ZfW
theorem Sc(c:Clm)(E:c.b.length<=1000000):Abs prog 144 [AP (EM c)] (AP (in2 (rlR 1073741824 c.kind c.n c.r (c.b.length:Nat)).1 (rlR 1073741824 c.kind c.n c.r (c.b.length:Nat)).2)):=by
 obtain⟨kind,p,n,d,r,o,l,s,b⟩:=c;rw[show EM ⟨kind,p,n,d,r,o,l,s,b⟩=[eI kind,Lh p,eI n,eI d,eI r,Er o,Iq l,NR s,Gl b]from rfl];refine Ab func144 λy=>?_;rw[ntmps144];refine Go ?_;refine CM 0 1 rfl rfl rfl ?_;refine Go ?_;by_cases Z:kind=6
 .subst Z
  exact ZfX
 by_cases k:kind=7
 .subst k
  exact ZfX
 by_cases q:kind=8
 .subst q
  exact ZfX
 by_cases C:kind=9
 .subst C
  exact ZfX
 by_cases A:kind=13
 .subst A
  exact ZfX
 exact ZfX
abbrev cn3(s:List Int):List D:=in3 (Ns s (-1):Nat) (Ns s 0:Nat) (Ns s 1:Nat)
theorem LQ(s:List Int)(hs:s.length<=1000000):Abs prog 142 [NR s] (AP (cn3 s)):=by
 refine Ab func142 λs0=>?_
 rw [ntmps142]
 refine Go ?_
 refine AC (λmz σ=>∃k,k<=s.length/\mz=s.length-k/\σ=⟨[(2,.ptr 0 0),(3,.ptr 1 0),(6,.d (NR s)),(7,.d (eN s.length)),(8,.d (eN k))],[.var 222 ((in3 0 0 0).map .d),.var 222 ((cn3 (s.take k)).map .d)]⟩) ?le ⟨0,by omega,rfl,rfl⟩ ?round
 case le=>exact Ac (by exact Yp<|Yp<|Yd<|Yd<|Yd<|FrLe.nil) (by refine HpLe.cons (OwLe.cells (by repeat (first | exact CellsLe.nil | refine CellsLe.cons (AVle.d rfl) ?_ | refine CellsLe.cons (AVle.le AM) ?_))) ?_;refine HpLe.cons (OwLe.cells (by repeat (first | exact CellsLe.nil | refine CellsLe.cons (AVle.d rfl) ?_ | refine CellsLe.cons (AVle.le AM) ?_))) ?_;exact HpLe.nil)
 case round=>
  rintro mz _ ⟨k,hk,rfl,rfl⟩
  by_cases hlt:k<s.length
  .have hv:∀v:Int, Ns (s.take k) v<=k:=λv=>Yau (A8D _ v) (by rw [YaO]; omega)
   have h1:=PE hlt (-1)
   have h2:=PE hlt 0
   have h3:=PE hlt 1
   have hv1:=hv (-1)
   have hv2:=hv 0
   have hv3:=hv 1
   by_cases g1:s.getD k default = -1
   .rw [g1] at h1 h2 h3
    simp at h1 h2 h3
    refine Go ?_
    rw [g1]
    refine Go ?_
    refine Ai (s.length-(k+1)) (by omega) ⟨k+1,by omega,rfl,rfl⟩ ?_
    exact Ac (by exact Yp<|Yp<|Yd<|Yd<|Yd<|FrLe.nil) (by refine HpLe.cons (OwLe.cells (CellsLe.cons (AVle.int (by omega)) (CellsLe.cons (AVle.int (by omega)) (CellsLe.cons (AVle.int (by omega)) CellsLe.nil)))) ?_;refine HpLe.cons (OwLe.cells (CellsLe.cons (AVle.int (by omega)) (CellsLe.cons (AVle.int (by omega)) (CellsLe.cons (AVle.int (by omega)) CellsLe.nil)))) ?_;exact HpLe.nil)
   by_cases g2:s.getD k default=0
   .rw [g2] at h1 h2 h3
    simp at h1 h2 h3
    refine Go ?_
    rw [g2]
    refine Go ?_
    refine Ai (s.length-(k+1)) (by omega) ⟨k+1,by omega,rfl,rfl⟩ ?_
    exact Ac (by exact Yp<|Yp<|Yd<|Yd<|Yd<|FrLe.nil) (by refine HpLe.cons (OwLe.cells (CellsLe.cons (AVle.int (by omega)) (CellsLe.cons (AVle.int (by omega)) (CellsLe.cons (AVle.int (by omega)) CellsLe.nil)))) ?_;refine HpLe.cons (OwLe.cells (CellsLe.cons (AVle.int (by omega)) (CellsLe.cons (AVle.int (by omega)) (CellsLe.cons (AVle.int (by omega)) CellsLe.nil)))) ?_;exact HpLe.nil)
   by_cases g3:s.getD k default=1
   .rw [g3] at h1 h2 h3
    simp at h1 h2 h3
    refine Go ?_
    rw [g3]
    refine Go ?_
    refine Ai (s.length-(k+1)) (by omega) ⟨k+1,by omega,rfl,rfl⟩ ?_
    exact Ac (by exact Yp<|Yp<|Yd<|Yd<|Yd<|FrLe.nil) (by refine HpLe.cons (OwLe.cells (CellsLe.cons (AVle.int (by omega)) (CellsLe.cons (AVle.int (by omega)) (CellsLe.cons (AVle.int (by omega)) CellsLe.nil)))) ?_;refine HpLe.cons (OwLe.cells (CellsLe.cons (AVle.int (by omega)) (CellsLe.cons (AVle.int (by omega)) (CellsLe.cons (AVle.int (by omega)) CellsLe.nil)))) ?_;exact HpLe.nil)
   rw [Yaj g1] at h1
   rw [Yaj g2] at h2
   rw [Yaj g3] at h3
   by_cases g4:s.getD k default < -1
   .refine Go ?_
    refine Ai (s.length-(k+1)) (by omega) ⟨k+1,by omega,rfl,rfl⟩ ?_
    exact Ac (by exact Yp<|Yp<|Yd<|Yd<|Yd<|FrLe.nil) (by refine HpLe.cons (OwLe.cells (CellsLe.cons (AVle.int (by omega)) (CellsLe.cons (AVle.int (by omega)) (CellsLe.cons (AVle.int (by omega)) CellsLe.nil)))) ?_;refine HpLe.cons (OwLe.cells (CellsLe.cons (AVle.int (by omega)) (CellsLe.cons (AVle.int (by omega)) (CellsLe.cons (AVle.int (by omega)) CellsLe.nil)))) ?_;exact HpLe.nil)
   have g5:1<s.getD k default:=by omega
   refine Go ?_
   refine Ai (s.length-(k+1)) (by omega) ⟨k+1,by omega,rfl,rfl⟩ ?_
   exact Ac (by exact Yp<|Yp<|Yd<|Yd<|Yd<|FrLe.nil) (by refine HpLe.cons (OwLe.cells (CellsLe.cons (AVle.int (by omega)) (CellsLe.cons (AVle.int (by omega)) (CellsLe.cons (AVle.int (by omega)) CellsLe.nil)))) ?_;refine HpLe.cons (OwLe.cells (CellsLe.cons (AVle.int (by omega)) (CellsLe.cons (AVle.int (by omega)) (CellsLe.cons (AVle.int (by omega)) CellsLe.nil)))) ?_;exact HpLe.nil)
  .obtain rfl:k=s.length:=by omega
   refine Go ?_
   exact AA (Am (ResV.cell rfl rfl (Aa rfl) rfl rfl rfl) (Ae (by rw [YaY])))
abbrev clC(kind:Int)(P:List Tm)(n d r:Int)(o:List (Nat->Int))(l:List (List RTm))(s:List Int)(b:List (Nat->RQ×RQ)):List D:=[eI kind,BS P,eI n,eI d,eI r,Er o,Iq l,NR s,Gl b]
theorem A15(kind:Int)(P:List Tm)(n d r:Int)(o:List (Nat->Int))(l:List (List RTm))(s:List Int)(b:List (Nat->RQ×RQ)):EM ⟨kind,P.map EF,n,d,r,o,l,s,b⟩=clC kind P n d r o l s b:=by
 unfold clC;rw[KA];rfl
def eq3(s j:List Int):Bool:=((Ns s (-1):Nat):Int)==((Ns j (-1):Nat):Int)&&((Ns s 0:Nat):Int)==((Ns j 0:Nat):Int)&&((Ns s 1:Nat):Int)==((Ns j 1:Nat):Int)
def XP(q:Bool)(kind G n h d B r A:Int)(s j:List Int):Bool:=
 ((kind==1&&G==2)&&q)||((kind==5&&G==5)&&(d != B||n != h))||((kind==6&&G==6)&&(n != h||d != B||r != A))||((kind==8&&G==8)&&(q && !eq3 s j))||((kind==10&&G==8)&&(q&&decide ((0:Int)<((Ns j (-1):Nat):Int))))
def rgP(kind:Int)(u E v X:Int×Int):Bool:=
 ((decide (u.2<E.1)||decide (E.2<u.1))||(decide (v.2<X.1)||decide (X.2<v.1)))||decide (v.1>E.2)
theorem Vb(kind e:Int)(P t:List Tm)(n h d J r G:Int)(o x:List (Nat->Int))(l i:List (List RTm))(s j:List Int)(b H:List (Nat->RQ×RQ))(L:PSz P 1000000000)(R:PSz t 1000000000)(g:P.length<=1000000)(K:t.length<=1000000)(a:s.length<=1000000)(c:j.length<=1000000)(E:b.length<=1000000)(M:H.length<=1000000)(u m v X:Int×Int)(Q:TL 1073741824 kind n d=u)(xa:TL 1073741824 e h J=m)(F:rlR 1073741824 kind n r (b.length:Nat)=v)(Y:rlR 1073741824 e h G (H.length:Nat)=X) :
  Abs prog 71 [AP (clC kind P n d r o l s b),AP (clC e t h J G x i j H)] (eB (XP (decide (Db P t=0)) kind e n h d J r G s j||rgP kind u m v X||(kind==2&&(m.1==0&&m.2==0)))):=by
 have f:=Vp P t L R g K;have N:=LQ s a;have xd:=LQ j c;have S:=SY ⟨kind,P.map EF,n,d,r,o,l,s,b⟩ E;have xb:=SY ⟨e,t.map EF,h,J,G,x,i,j,H⟩ M;have cr:=Sc ⟨kind,P.map EF,n,d,r,o,l,s,b⟩ E;have xc:=Sc ⟨e,t.map EF,h,J,G,x,i,j,H⟩ M;rw[A15]at S xb cr xc;rw[show TL 1073741824 (Clm.kind ⟨kind,P.map EF,n,d,r,o,l,s,b⟩) _ _=u from Q]at S;rw[show TL 1073741824 (Clm.kind ⟨e,t.map EF,h,J,G,x,i,j,H⟩) _ _=m from xa]at xb;rw[show rlR 1073741824 (Clm.kind ⟨kind,P.map EF,n,d,r,o,l,s,b⟩) _ _ _=v from F]at cr;rw[show rlR 1073741824 (Clm.kind ⟨e,t.map EF,h,J,G,x,i,j,H⟩) _ _ _=X from Y]at xc;have xf:=Vh u.1 u.2 m.1 m.2;have xg:=Vh v.1 v.2 X.1 X.2;clear Q xa F Y;refine Ab func71 λy=>?_;rw[ntmps71];apply Y1;refine Bx ?_;refine Bx ?_;refine Wa<|Y0 ?_;refine CM 0 2 rfl rfl rfl ?_;refine CM 1 3 rfl rfl rfl ?_;refine AWp.cutB 0 (λ_:Unit=>⟨[(2,.d (Fk 34 (clC kind P n d r o l s b))),(3,.d (Fk 34 (clC e t h J G x i j H))),(4,.d (eB false))],[.dead,.dead]⟩) (λ_=>XP (decide (Db P t=0)) kind e n h d J r G s j=false) ?_ ?_;refine AWp.block<|Y1 ?_;refine Wq AE ?_;refine Wq AT ?_;refine Wq Ci ?_;refine Wm ?_;refine EJ (λT=>AE) ?_;refine CG 14 rfl (λT=>AT) ?_;refine CG 15 rfl (λT=>Ci) ?_;refine Wq CR ?_;refine Wa<|Y0 ?_
 .refine FQ (ao rfl) (λW=>?_) (λW=>?_)
  .obtain ⟨A, B⟩:kind=1/\e=2:=by simpa using W
   refine Go ?_;refine FQ (ao rfl) (λq=>?_) (λq=>?_)
   .exact Zbp
   .exact Zbq
  refine ZfM ?_;refine CG 28 rfl (λT=>AT) ?_;refine CG 29 rfl (λT=>Ci) ?_;refine Go ?_;refine FQ (ao rfl) (λC=>?_) (λC=>?_)
  .obtain ⟨A, B⟩:kind=5/\e=5:=by simpa using C
   refine Go ?_;refine Wv0 (λT=>AE) ?_;refine Wv1 38 rfl (λT=>AT) ?_;refine Wv0 (λT=>AE) ?_;refine Wv1 40 rfl (λT=>AT) ?_;refine Wv2 39 rfl 41 rfl (λT=>Ci) ?_;refine Go ?_;refine FQ (ao rfl) (λq=>?_) (λq=>?_)
   .exact Zbp
   .exact Zbq
  refine ZfM ?_;refine CG 49 rfl (λT=>AT) ?_;refine CG 50 rfl (λT=>Ci) ?_;refine Go ?_;refine FQ (ao rfl) (λI=>?_) (λI=>?_)
  .obtain ⟨A, B⟩:kind=6/\e=6:=by simpa using I
   refine Go ?_;refine Wv0 (λT=>AE) ?_;refine Wv1 59 rfl (λT=>AT) ?_;refine Wv0 (λT=>AE) ?_;refine Wv1 61 rfl (λT=>AT) ?_;refine Wv2 60 rfl 62 rfl (λT=>Ci) ?_;refine Go ?_;refine Wv0 (λT=>AE) ?_;refine Wv1 66 rfl (λT=>AT) ?_;refine Wv0 (λT=>AE) ?_;refine Wv1 68 rfl (λT=>AT) ?_;refine Wv2 67 rfl 69 rfl (λT=>Ci) ?_;refine Go ?_;refine FQ (ao rfl) (λq=>?_) (λq=>?_)
   .exact Zbp
   .exact Zbq
  refine ZfM ?_;refine CG 77 rfl (λT=>AT) ?_;refine CG 78 rfl (λT=>Ci) ?_;refine Go ?_;refine FQ (ao rfl) (λO=>?_) (λO=>?_)
  .obtain ⟨A, B⟩:kind=8/\e=8:=by simpa using O
   by_cases qq:Db P t=0
   .rw [Yal qq]at f ⊢
    apply Ah;refine Dy 14 ?_;have U:=xd;refine DA ?_;refine⟨_,AZ rfl rfl (Aba rfl rfl),?_⟩;refine ZfU ?_;refine FQ (ao rfl) (λq=>?_) (λq=>?_)
    .exact Zbp
    .exact Zbq
   .rw [Yad qq]at f ⊢
    apply Ah;refine Dy 14 ?_;refine ZfU ?_;exact ZiR
  refine ZfM ?_;refine CG 100 rfl (λT=>AT) ?_;refine CG 101 rfl (λT=>Ci) ?_;refine Go ?_;refine FQ (ao rfl) (λV=>?_) (λV=>?_)
  .obtain ⟨A, B⟩:kind=10/\e=8:=by simpa using V
   by_cases qq:Db P t=0
   .rw [Yal qq]at f ⊢
    have p:=xd;refine Go ?_;refine Wg (Abb (i:=0) (ds:=cn3 j) rfl rfl (Aa rfl) (Aa rfl) rfl ZbH ZbH (Ych _)) ?_;refine Go ?_;refine FQ (ao rfl) (λq=>?_) (λq=>?_)
    .exact Zbp
    .exact Zbq
   .rw [Yad qq]at f ⊢
    refine Go ?_;exact ZiR
  refine Go ?_;refine CutS.normal () (by simp only[XP,W,C,I,O,V,Bool.false_and,Bool.or_false]) ?_;exact Ac Zdb ZcV
 .rintro-xe
  rw[xe];apply Ah;refine Dy 6 ?_;refine DA ?_;refine Sf ?_;refine Sf ?_;apply Y0;refine CM 2 5 rfl rfl rfl ?_;refine CM 3 6 rfl rfl rfl ?_;apply Ah;refine Dy 6 ?_;have k:=xb;have w:=xc;refine DA ?_;refine Sf ?_;refine Sf ?_;apply Y0;refine CM 4 7 rfl rfl rfl ?_;refine CM 5 8 rfl rfl rfl ?_;refine Ah<|Y1 ?_;refine Wq Ca ?_;refine Wq Ca ?_;refine Wq (AJ (xf)) ?_;refine Wm ?_;refine Wv0 (λT=>Ca) ?_;refine Wv0 (λT=>Ca) ?_;refine Wv2 128 rfl 129 rfl (λT=>AJ (xg)) ?_;refine Wq Ox ?_;refine Wm ?_;refine Wv0 (λT=>AE) ?_;refine Wv1 133 rfl (λT=>AT) ?_;refine Wv0 (λT=>AE) ?_;refine Wv1 135 rfl (λT=>AT) ?_;refine Wv2 134 rfl 136 rfl (λT=>Ci) ?_;refine Wq Ox ?_;apply Y0
  refine FQ (ao rfl) (λq=>?_) (λq=>?_)
  .refine Go ?_
   exact AA (Am (ResV.tmp rfl rfl) (Ae (congrArg (λz=>eB z) (by rw[show rgP kind u m v X=true from q];simp))))
  .by_cases Z:kind=2
   .refine Go ?_;refine Wg (A4p rfl rfl) ?_;refine Go ?_
    exact ZkH
   .refine Go ?_
    exact ZkH
section
variable {kind kind':Int} {P P':List Tm} {n n' d d' r r':Int} {o o':List (Nat->Int)} {l l':List (List RTm)} {s s':List Int} {b b':List (Nat->RQ×RQ)} {x y:Bool}
theorem A4y(q:Abs prog 71 [AP (clC kind P n d r o l s b),AP (clC kind' P' n' d' r' o' l' s' b')] (eB x))(A:Abs prog 71 [AP (clC kind' P' n' d' r' o' l' s' b'),AP (clC kind P n d r o l s b)] (eB y)) :
  Abs prog 29 [AP (clC kind P n d r o l s b),AP (clC kind' P' n' d' r' o' l' s' b')] (eB (x||y)):=by
 refine Ab func29 λB=>?_;rw[ntmps29];apply Y1;refine Bx ?_;refine Bx ?_;refine Wa<|Y0 ?_;refine CM 0 2 rfl rfl rfl ?_;refine CM 1 3 rfl rfl rfl ?_;apply Y1;refine Wq Ca ?_;refine Wq Ca ?_;refine Wq (AJ (q)) ?_;refine Wm ?_;refine Wv0 (λT=>Ca) ?_;refine Wv0 (λT=>Ca) ?_;refine Wv2 9 rfl 10 rfl (λT=>AJ (A)) ?_;refine Wq Ox ?_;refine Wa<|Y0<|BR ?_
 exact Yf
end
def pQ(Q:List (List Tm))(i n:Nat):List (List Tm):=(List.range n).map λj=>if Q.length=0 then[]else Q.getD ((i+j)%Q.length) default
def pC(L:List (Nat×List (Nat->Int))):List Tm:=if(Ba L).length=0 then[]else(Ba L).getD (2%(Ba L).length) default
def rQ(Q:List (List Tm)):List (List RTm):=Q.map λP=>P.map EF
noncomputable def Cz (M:Nat) (L:List (Nat×List (Nat->Int))) (V:List Int):Clm:=
 if M%13=0\/M%13=1\/M%13=9 then⟨1+((M%13:Nat):Int),(pC L).map EF,0,0,0,[],[],[],[]⟩
 else if M%13=3 then⟨4,[],0,0,0,CW (AR V 2%256).toNat,rQ (pQ (Ba L) 1 (AR V 1%8%4).toNat),[],[]⟩
 else if M%13=4 then⟨5,[],AR V 3%16,AR V 1%8%4-1,0,[],[],[],[]⟩
 else if M%13=5 then⟨6,[],AR V 1%8,AR V 1%8-AR V 1%8/3,AR V 1%8/2,[],[],[],[]⟩
 else if M%13=6 then⟨7,[],0,0,0,[],[],[],(List.range (AR V 1%8%4).toNat).map (Eg V)⟩
 else if M%13=7 then⟨8,(pC L).map EF,0,0,0,[],[],(List.range (AR V 1%8%4).toNat).map (λi=>(AR V i%128)%3-1),(List.range (AR V 1%8%4).toNat).map (Eg V)⟩
 else if M%13=10 then⟨11,[],0,0,0,[],rQ (pQ (Ba L) 1 (AR V 1%8%4).toNat),[],[]⟩
 else if M%13=11\/M%13=12 then⟨1+((M%13:Nat):Int),[],AR V 1%8,0,0,[],[],[],[]⟩
 else⟨1+((M%13:Nat):Int),[],0,0,0,[],[],[],[]⟩
theorem A53(a:Int):IntKind.u8.wrap a=(((a%256).toNat:Nat):Int):=by
 exact Zgi
theorem GC(kind:Int)(P:List Tm)(n d r:Int)(o:List (Nat->Int))(Q:List (List Tm))(s:List Int)(b:List (Nat->RQ×RQ)):EM ⟨kind,P.map EF,n,d,r,o,rQ Q,s,b⟩=[eI kind,BS P,eI n,eI d,eI r,Er o,Bb Q,NR s,Gl b]:=by
 rw[A15,Fe];rfl
abbrev Hr(T t:Nat)(M:Nat)(L:List (Nat×List (Nat->Int)))(V:List Int):List D:=[ex (.int .u8 (M:Nat)),rwD T L,OR t V]
theorem Tr(T t:Nat)(M:Nat)(e:M<256)(A:M%13≠6)(g:M%13≠7)(L:List (Nat×List (Nat->Int)))(s:TM L)(V:List Int)(B:I8 V)(I:V.length<=9223372036854775807):Abs prog 24 [AP (Hr T t M L V)] (AP (EM (Cz M L V))):=by
 have E:=EB T L s
 have m:(Ba L).length<=6:=by
  exact ZhY
 have r:Abs prog 62 [Bb (Ba L),eN 2,eN 1] (Bb [pC L]):=Ex (Ba L) 2 1 ZbH ZbH ZbC;have K:=CI t V B 1 ZbH I;have q:=Cj B 1;by_cases C:M%13=3
 .rw [show Cz M L V=⟨4, ([]:List Tm).map EF, 0, 0, 0, CW (AR V 2%256).toNat, rQ (pQ (Ba L) 1 (AR V 1%8%4).toNat), [], []⟩ from by simp [Cz, rQ, C]]
  rw[GC];refine Ab func24 λy=>?_;rw[ntmps24];refine Go ?_;refine Dy 9 ?_;refine DA ?_;refine⟨_,HStep.q rfl (EA 3 rfl rfl ZbC),?_⟩;refine DA ?_;have F:=CI t V B 2 ZbH I;have f:=PL (AR V 2%256).toNat ZbC;have O:=Ex (Ba L) 1 (AR V 1%8%4).toNat ZbH ZbC ZbC;refine Wa<|Y0<|Ah<|Y1 ?_;refine Wq AB ?_;refine Wq As ?_;refine Y0<|AWp.block<|Ah<|Y1 ?_;refine Wq AL ?_;refine Wa<|Y0<|Cf<|Y1 ?_;refine Wq AL ?_;refine Wa<|Y0<|Cf<|AWp.region ?_;refine Wq AL ?_;refine Wa<|Y0<|Cf<|Y1 ?_;refine Wq Bc ?_;refine Wa<|Y0<|Ct<|AWp.region ?_;refine Wq AB ?_;refine Wq As ?_;refine Wq (AJ (F)) ?_;refine Wq (AO (r:=(((AR V 2%256).toNat:Nat):Int)) (ao rfl) (Aa rfl) (Aa rfl) (A53 _)) ?_;refine Wq (AJ (f)) ?_;refine Wm<|Wm ?_;refine Wq (Ep (r:=(((AR V 1%8%4).toNat:Nat):Int)) (ao rfl) (ao rfl) ((DJ (AR V 1%((2^3:Nat):Int)) (j:=2) ZbC).trans ZbC)) ?_;refine Wq (AJ (O)) ?_;refine Wq AB ?_;refine Dg (ao rfl) (ao rfl) rfl (Aa rfl) ZbS rfl rfl ?_;refine Wq AB ?_;refine Dg (ao rfl) (ao rfl) rfl (Aa rfl) ZbS rfl rfl ?_;refine AWl.nil<|Bg<|Yn<|Y1 ?_;refine Wq AF ?_;refine Sf ?_;refine Y0<|BR ?_
  exact AA (Am (ResV.cell rfl rfl (Aa rfl) rfl rfl rfl) (Ch ZbM))
 by_cases Q:M%13=10
 .rw [show Cz M L V=⟨11, ([]:List Tm).map EF, 0, 0, 0, [], rQ (pQ (Ba L) 1 (AR V 1%8%4).toNat), [], []⟩ from by simp [Cz, rQ, Q]]
  rw[GC];refine Ab func24 λy=>?_;refine ZgW ?_;refine DA ?_;have O:=Ex (Ba L) 1 (AR V 1%8%4).toNat ZbH ZbC ZbC;refine Go ?_;refine Wq (Ep (r:=(((AR V 1%8%4).toNat:Nat):Int)) (ao rfl) (ao rfl) ((DJ (AR V 1%((2^3:Nat):Int)) (j:=2) ZbC).trans ZbC)) ?_;exact ZfH
 by_cases U:M%13=4
 .rw [show Cz M L V=⟨5, ([]:List Tm).map EF, AR V 3%16, AR V 1%8%4-1, 0, [], rQ [], [], []⟩ from by simp [Cz, rQ, U]]
  rw[GC];refine Ab func24 λy=>?_;refine ZgW ?_;refine DA ?_;have F:=CI t V B 3 ZbH I;refine Go ?_;refine Wq (EA 2 rfl rfl ZbC) ?_;refine Go ?_;refine Wq (EA 4 rfl rfl ZbC) ?_;exact ZfH
 by_cases d:M%13=5
 .rw [show Cz M L V=⟨6, ([]:List Tm).map EF, AR V 1%8, AR V 1%8-AR V 1%8/3, AR V 1%8/2, [], rQ [], [], []⟩ from by simp [Cz, rQ, d]]
  exact ZiZ
 by_cases X:M%13=0
 .rw [show Cz M L V=⟨1, (pC L).map EF, 0, 0, 0, [], rQ [], [], []⟩ from by simp [Cz, rQ, X]]
  exact ZiZ
 by_cases k:M%13=1
 .rw [show Cz M L V=⟨2, (pC L).map EF, 0, 0, 0, [], rQ [], [], []⟩ from by simp [Cz, rQ, k]]
  exact ZiZ
 by_cases G:M%13=9
 .rw [show Cz M L V=⟨10, (pC L).map EF, 0, 0, 0, [], rQ [], [], []⟩ from by simp [Cz, rQ, G]]
  exact ZiZ
 by_cases Y:M%13=2
 .rw [show Cz M L V=⟨3, ([]:List Tm).map EF, 0, 0, 0, [], rQ [], [], []⟩ from by simp [Cz, rQ, Y]]
  exact ZiZ
 by_cases N:M%13=8
 .rw [show Cz M L V=⟨9, ([]:List Tm).map EF, 0, 0, 0, [], rQ [], [], []⟩ from by simp [Cz, rQ, N]]
  exact ZiZ
 by_cases S:M%13=11
 .rw [show Cz M L V=⟨12, ([]:List Tm).map EF, AR V 1%8, 0, 0, [], rQ [], [], []⟩ from by simp [Cz, rQ, S]]
  exact ZiZ
 by_cases J:M%13=12
 .rw [show Cz M L V=⟨13, ([]:List Tm).map EF, AR V 1%8, 0, 0, [], rQ [], [], []⟩ from by simp [Cz, rQ, J]]
  exact ZiZ
 omega
def orD(x y:D):D:=⟨λs v=>x.rel s v\/y.rel s v,λh G=>h.elim (λh=>.inl (x.st h G)) λh=>.inr (y.st h G)⟩
theorem A7u(h:D.le r vv):D.le r (orD vv uq):=λs v q=>.inl (h s v q)
theorem A7t(h:D.le r uq):D.le r (orD vv uq):=λs v q=>.inr (h s v q)
abbrev Uf(V:List Int)(k:Nat):List (Nat->RQ×RQ):=(List.range k).map (Eg V)
theorem Zk(V:List Int)(k:Nat):(Uf V (k+1)).map DB=(Uf V k).map DB++[DB (Eg V k)]:=by simp[Uf,YcB]
abbrev sgK(V:List Int)(k:Nat):List Int:=(List.range k).map λi=>(AR V i%128)%3-1
abbrev sgR(V:List Int)(k:Nat):List (List D):=(sgK V k).map λz=>[eI z]
theorem A5o(V:List Int)(k:Nat):sgR V (k+1)=sgR V k++[[eI ((AR V k%128)%3-1)]]:=by simp[sgR,sgK,YcB]
theorem Ul(T t:Nat)(M:Nat)(E:M<256)(L:List (Nat×List (Nat->Int)))(s:TM L)(V:List Int)(f:I8 V)(I:V.length<=9223372036854775807)(G:M%13=6):Abs prog 24 [AP (Hr T t M L V)] (AP (EM (Cz M L V))):=by
 have C:=EB T L s
 have m:(Ba L).length<=6:=by
  exact ZhY
 have r:Abs prog 62 [Bb (Ba L),eN 2,eN 1] (Bb [pC L]):=Ex (Ba L) 2 1 ZbH ZbH ZbC;have K:=CI t V f 1 ZbH I;have q:=Cj f 1;obtain⟨N,A⟩:∃N,N=(AR V 1%8%4).toNat:=⟨_,rfl⟩;rw[show Cz M L V=⟨7,([]:List Tm).map EF,0,0,0,[],rQ [],[],Uf V N⟩from by simp[Cz,rQ,G,Uf,sgK,A]];rw[GC];refine Ab func24 λy=>?_;refine ZgW ?_;refine ZfU ?_;rw[show(1+(M:Int)%13)=7 by omega];refine Fh 131 64 ZbH ZbH rfl ?_;refine AC (λw e=>∃k v,k<=N/\w=N-k/\e=⟨[(1,.ptr 0 0),(2,.ptr 1 0),(4,.ptr 2 0),(5,.d (BS (pC L))),(6,.d (eI (AR V 1%((2^3:Nat):Int)))),(7,.d (eN k))],[.var 58 ((Hr T t M L V).map .d),.var 34 (([eI 0,eS,eI 0,eI 0,eI 0,eS,eS,eS,eS]:List D).map .d),.var 34 (([eI 7,eS,eI 0,eI 0,eI 0,eS,eS,eS,ex v]:List D).map .d),.obj (LX v 131 64 ((Uf V k).map DB))]⟩) ?le ⟨0,.slice none 0 0,by omega,rfl,rfl⟩ ?round
 case le=>exact Ac ZdX (by exact Yv<|Yv<|Yv<|HpLe.cons (OwLe.obj rfl)<|HpLe.nil)
 case round=>
  rintro w _ ⟨k,v,B,rfl,rfl⟩;by_cases O:k<N
  .have F:=LW t V f I k ZbC
   refine Go ?_;refine Wq (Ep (r:=((N:Nat):Int)) (ao rfl) (ao rfl) ((DJ (AR V 1%((2^3:Nat):Int)) (j:=2) ZbC).trans ZbC)) ?_;refine Go ?_;refine FP 3 (.obj (LX v 131 64 ((Uf V k).map DB))) (.row 131 64 ((Uf V k).map DB++[DB (Eg V k)])) 7 9 [8,7,6,5,4,3,2,1,0] [] [.ptr 2 8,.d (ex v),.ptr 0 2,.d (OR t V),.d (eN k),.d (AP (DB (Eg V k))),.d (slD 131 64 [DB (Eg V k)]),.own 3,.ptr 2 8] [(1,.ptr 0 0),(2,.ptr 1 0),(4,.ptr 2 0),(5,.d (BS (pC L))),(6,.d (eI (AR V 1%((2^3:Nat):Int)))),(7,.d (eN k))] [(85,.own 3),(86,.ptr 2 8),(1,.ptr 0 0),(2,.ptr 1 0),(4,.ptr 2 0),(5,.d (BS (pC L))),(6,.d (eI (AR V 1%((2^3:Nat):Int)))),(7,.d (eN k))] ZbG rfl ⟨rfl,rfl,rfl,rfl,rfl,rfl,trivial⟩ rfl rfl ZbG ZbG ZbG (by refine DSteps.q rfl ZbA ?_;refine DSteps.q rfl ZbA ?_;refine DSteps.q rfl ZbA ?_;refine DSteps.q rfl ZbA ?_;refine DSteps.q rfl ZbA ?_;refine DSteps.q rfl (λ_=>BO (ah rfl) F (ArgsLe.cons rfl (D.le.refl _) (ArgsLe.cons rfl (D.le.refl _) ArgsLe.nil))) ?_;refine DSteps.q rfl (λ_=>Cb (ah rfl) (Aa rfl) (Aa rfl) rfl rfl rfl rfl rfl) ?_;refine DSteps.k rfl (DTurn.rows rfl rfl rfl (Aa rfl) (Aa rfl) rfl rfl rfl rfl ZiI ZiI) ?_;refine DSteps.q rfl ZbA ?_;exact DSteps.nil) ZbG ZbG ⟨rfl,rfl,rfl,rfl,rfl,rfl,rfl,rfl,trivial⟩ [.var 58 ((Hr T t M L V).map .d),.var 34 (([eI 0,eS,eI 0,eI 0,eI 0,eS,eS,eS,eS]:List D).map .d),.var 34 (([eI 7,eS,eI 0,eI 0,eI 0,eS,eS,eS,ex v]:List D).map .d),.row 131 64 ((Uf V k).map DB++[DB (Eg V k)])] rfl ?_;refine Eo (ao rfl) (ao rfl) rfl (Aa rfl) (One.own rfl) rfl rfl ?_;apply Y0;(refine Gf 3 131 64 ((Uf V (k+1)).map DB) (by rw[Zk];rfl) λX=>?_);apply Y1;refine Wq AB ?_;refine Wq Cm ?_;refine Wq AL ?_;refine Y0<|Cf<|Hl<|Bg<|Yn<|AWp.region<|Wm ?_;refine Wq CL ?_;refine Wa<|AWl.nil ?_
   skip
   refine Ai (N-(k+1)) ZbC ⟨k+1,X,by omega,rfl,rfl⟩ ?_;exact Ac ZdX (by exact HpLe.cons (Ad rfl)<|HpLe.cons (Ad rfl)<|HpLe.cons (Ad rfl)<|HpLe.cons (OwLe.obj rfl)<|HpLe.nil)
  .obtain rfl:k=N:=by omega
   refine CT (σ':=⟨[(1,.ptr 0 0),(2,.ptr 1 0),(4,.ptr 2 0),(5,.d (BS (pC L))),(6,.d (eI (AR V 1%((2^3:Nat):Int)))),(7,.d (eN k))],[.var 58 ((Hr T t M L V).map .d),.var 34 (([eI 0,eS,eI 0,eI 0,eI 0,eS,eS,eS,eS]:List D).map .d),.var 34 (([eI 7,eS,eI 0,eI 0,eI 0,eS,eS,eS,Gl (Uf V k)]:List D).map .d),.dead]⟩) ?wk ?_
   case wk=>exact Ac Zcx (HpLe.cons (OwLe.varD rfl) (HpLe.cons (OwLe.varD rfl) (HpLe.cons (OwLe.cells (CellsLe.cons (AVle.d rfl) (CellsLe.cons (AVle.d rfl) (CellsLe.cons (AVle.d rfl) (CellsLe.cons (AVle.d rfl) (CellsLe.cons (AVle.d rfl) (CellsLe.cons (AVle.d rfl) (CellsLe.cons (AVle.d rfl) (CellsLe.cons (AVle.d rfl) (CellsLe.cons (AVle.rows (id:=3) rfl) CellsLe.nil)))))))))) (HpLe.cons OwLe.dead HpLe.nil))))
   refine Go ?_;exact Zhf
theorem Uj(T t:Nat)(M:Nat)(G:M<256)(L:List (Nat×List (Nat->Int)))(s:TM L)(V:List Int)(f:I8 V)(I:V.length<=9223372036854775807)(S:M%13=7):Abs prog 24 [AP (Hr T t M L V)] (AP (EM (Cz M L V))):=by
 have F:=EB T L s
 have m:(Ba L).length<=6:=by
  exact ZhY
 have r:Abs prog 62 [Bb (Ba L),eN 2,eN 1] (Bb [pC L]):=Ex (Ba L) 2 1 ZbH ZbH ZbC;have K:=CI t V f 1 ZbH I;have q:=Cj f 1;obtain⟨N,A⟩:∃N,N=(AR V 1%8%4).toNat:=⟨_,rfl⟩;rw[show Cz M L V=⟨8,(pC L).map EF,0,0,0,[],rQ [],sgK V N,Uf V N⟩from by simp[Cz,rQ,S,Uf,sgK,A]];rw[GC];refine Ab func24 λy=>?_;refine ZgW ?_;refine ZfU ?_;rw[show(1+(M:Int)%13)=8 by omega];refine Fh 131 64 ZbH ZbH rfl ?_;refine Fh 3 1 ZbH ZbH rfl ?_;refine AC (λw e=>∃k v u,k<=N/\w=N-k/\e=⟨[(1,.ptr 0 0),(2,.ptr 1 0),(4,.ptr 2 0),(5,.d (BS (pC L))),(6,.d (eI (AR V 1%((2^3:Nat):Int)))),(7,.d (eN k))],[.var 58 ((Hr T t M L V).map .d),.var 34 (([eI 0,eS,eI 0,eI 0,eI 0,eS,eS,eS,eS]:List D).map .d),.var 34 (([eI 8,orD (eS) (BS (pC L)),eI 0,eI 0,eI 0,eS,eS,ex u,ex v]:List D).map .d),.obj (LX v 131 64 ((Uf V k).map DB)),.obj (LX u 3 1 (sgR V k))]⟩) ?le ⟨0,.slice none 0 0,.slice none 0 0,by omega,rfl,rfl⟩ ?round
 case le=>exact Ac Zcx (HpLe.cons (OwLe.varD rfl) (HpLe.cons (OwLe.varD rfl) (HpLe.cons (OwLe.cells (CellsLe.cons (AVle.d rfl) (CellsLe.cons (AVle.le (A7u (D.le.refl _))) (CellsLe.cons (AVle.d rfl) (CellsLe.cons (AVle.d rfl) (CellsLe.cons (AVle.d rfl) (CellsLe.cons (AVle.d rfl) (CellsLe.cons (AVle.d rfl) (CellsLe.cons (AVle.d rfl) (CellsLe.cons (AVle.d rfl) CellsLe.nil)))))))))) (HpLe.cons (OwLe.obj rfl) (HpLe.cons (OwLe.obj rfl) HpLe.nil)))))
 case round=>
  rintro w _ ⟨k,v,u,B,rfl,rfl⟩;by_cases O:k<N
  .have Q:=LW t V f I k ZbC
   have C:=CI t V f k ZbC I;have J:=Cj f k;refine Go ?_;refine Wq (Ep (r:=((N:Nat):Int)) (ao rfl) (ao rfl) ((DJ (AR V 1%((2^3:Nat):Int)) (j:=2) ZbC).trans ZbC)) ?_;refine Go ?_;refine FP 3 (.obj (LX v 131 64 ((Uf V k).map DB))) (.row 131 64 ((Uf V k).map DB++[DB (Eg V k)])) 7 9 [8,7,6,5,4,3,2,1,0] [] [.ptr 2 8,.d (ex v),.ptr 0 2,.d (OR t V),.d (eN k),.d (AP (DB (Eg V k))),.d (slD 131 64 [DB (Eg V k)]),.own 3,.ptr 2 8] [(1,.ptr 0 0),(2,.ptr 1 0),(4,.ptr 2 0),(5,.d (BS (pC L))),(6,.d (eI (AR V 1%((2^3:Nat):Int)))),(7,.d (eN k))] [(85,.own 3),(86,.ptr 2 8),(1,.ptr 0 0),(2,.ptr 1 0),(4,.ptr 2 0),(5,.d (BS (pC L))),(6,.d (eI (AR V 1%((2^3:Nat):Int)))),(7,.d (eN k))] ZbG rfl ⟨rfl,rfl,rfl,rfl,rfl,rfl,trivial⟩ rfl rfl ZbG ZbG ZbG (by refine DSteps.q rfl ZbA ?_;refine DSteps.q rfl ZbA ?_;refine DSteps.q rfl ZbA ?_;refine DSteps.q rfl ZbA ?_;refine DSteps.q rfl ZbA ?_;refine DSteps.q rfl (λ_=>BO (ah rfl) Q (ArgsLe.cons rfl (D.le.refl _) (ArgsLe.cons rfl (D.le.refl _) ArgsLe.nil))) ?_;refine DSteps.q rfl (λ_=>Cb (ah rfl) (Aa rfl) (Aa rfl) rfl rfl rfl rfl rfl) ?_;refine DSteps.k rfl (DTurn.rows rfl rfl rfl (Aa rfl) (Aa rfl) rfl rfl rfl rfl ZiI ZiI) ?_;refine DSteps.q rfl ZbA ?_;exact DSteps.nil) ZbG ZbG ⟨rfl,rfl,rfl,rfl,rfl,rfl,rfl,rfl,trivial⟩ [.var 58 ((Hr T t M L V).map .d),.var 34 (([eI 0,eS,eI 0,eI 0,eI 0,eS,eS,eS,eS]:List D).map .d),.var 34 (([eI 8,orD (eS) (BS (pC L)),eI 0,eI 0,eI 0,eS,eS,ex u,ex v]:List D).map .d),.row 131 64 ((Uf V k).map DB++[DB (Eg V k)]),.obj (LX u 3 1 (sgR V k))] rfl ?_;refine Eo (ao rfl) (ao rfl) rfl (Aa rfl) (One.own rfl) rfl rfl ?_;apply Y0;(refine Gf 3 131 64 ((Uf V (k+1)).map DB) (by rw[Zk];rfl) λX=>?_);apply Y1;refine Wq AB ?_;refine Wq Cm ?_;refine Wq Bc ?_;refine Y0<|Ct ?_
   refine CT (σ':=⟨[(1,.ptr 0 0),(2,.ptr 1 0),(4,.ptr 2 0),(5,.d (BS (pC L))),(6,.d (eI (AR V 1%((2^3:Nat):Int)))),(7,.d (eN k))],[.var 58 ((Hr T t M L V).map .d),.var 34 (([eI 0,eS,eI 0,eI 0,eI 0,eS,eS,eS,eS]:List D).map .d),.var 34 (([eI 8,orD (eS) (BS (pC L)),eI 0,eI 0,eI 0,eS,eS,ex u,ex X]:List D).map .d),.obj (LX X 131 64 ((Uf V (k+1)).map DB)),.obj (LX u 3 1 (sgR V k))]⟩) ?wk2 ?_
   case wk2=>exact Ac ZdX (by exact HpLe.cons (Ad rfl)<|HpLe.cons (Ad rfl)<|HpLe.cons (Ad rfl)<|HpLe.cons (OwLe.obj rfl)<|HpLe.cons (OwLe.obj rfl)<|HpLe.nil)
   skip
   refine FP 4 (.obj (LX u 3 1 (sgR V k))) (.row 3 1 (sgR V k++[[eI ((AR V k%128)%3-1)]])) 11 13 [12,11,10,9,8,7,6,5,4,3,2,1,0] [] [.d (BS (pC L)),.ptr 2 7,.d (ex u),.ptr 0 2,.d (OR t V),.d (eN k),.d (eI (AR V k)),.d (eI (AR V k%128)),.d (eI (AR V k%128%3)),.d (eI (AR V k%128%3-1)),.d (slD 3 1 [[eI ((AR V k%128)%3-1)]]),.own 4,.ptr 2 1] [(1,.ptr 0 0),(2,.ptr 1 0),(4,.ptr 2 0),(5,.d (BS (pC L))),(6,.d (eI (AR V 1%((2^3:Nat):Int)))),(7,.d (eN k))] [(101,.own 4),(102,.ptr 2 1),(90,.d (BS (pC L))),(1,.ptr 0 0),(2,.ptr 1 0),(4,.ptr 2 0),(5,.d (BS (pC L))),(6,.d (eI (AR V 1%((2^3:Nat):Int)))),(7,.d (eN k))] ZbG rfl ⟨rfl,rfl,rfl,rfl,rfl,rfl,trivial⟩ rfl rfl ZbG ZbG ZbG (by refine DSteps.q rfl ZbA ?_;refine DSteps.q rfl ZbA ?_;refine DSteps.q rfl ZbA ?_;refine DSteps.q rfl ZbA ?_;refine DSteps.q rfl ZbA ?_;refine DSteps.q rfl ZbA ?_;refine DSteps.q rfl (λ_=>BO (ah rfl) C (ArgsLe.cons rfl (D.le.refl _) (ArgsLe.cons rfl (D.le.refl _) ArgsLe.nil))) ?_;refine DSteps.q rfl (λ_=>Ep (ah rfl) (ah rfl) ((DJ (AR V k) (j:=7) ZbC).trans rfl)) ?_;refine DSteps.q rfl (λ_=>KS (ah rfl) (ah rfl) ZbH (by rw[Ycq ZbC])) ?_;refine DSteps.q rfl (λ_=>PP (ah rfl) (ah rfl) ZbC ZbC) ?_;refine DSteps.q rfl (λ_=>Ao Zdi) ?_;refine DSteps.k rfl (DTurn.rows rfl rfl rfl (Aa rfl) (Aa rfl) rfl rfl rfl rfl ZiI ZiI) ?_;refine DSteps.q rfl ZbA ?_;exact DSteps.nil) ZbG ZbG ⟨rfl,rfl,rfl,rfl,rfl,rfl,rfl,rfl,rfl,trivial⟩ [.var 58 ((Hr T t M L V).map .d),.var 34 (([eI 0,eS,eI 0,eI 0,eI 0,eS,eS,eS,eS]:List D).map .d),.var 34 (([eI 8,orD (eS) (BS (pC L)),eI 0,eI 0,eI 0,eS,eS,ex u,ex X]:List D).map .d),.obj (LX X 131 64 ((Uf V (k+1)).map DB)),.row 3 1 (sgR V k++[[eI ((AR V k%128)%3-1)]])] rfl ?_;refine Dg (ao rfl) (ao rfl) rfl (Aa rfl) ZbS rfl rfl ?_;refine Wq AB ?_;refine Eo (ao rfl) (ao rfl) rfl (Aa rfl) (One.own rfl) rfl rfl ?_;refine AWl.nil<|Bg<|Yn ?_;(refine Gf 4 3 1 (sgR V (k+1)) (by rw[A5o];rfl) λE=>?_);refine AWp.region<|Wm ?_;refine Wq CL ?_;refine Wa<|AWl.nil ?_
   skip
   refine Ai (N-(k+1)) ZbC ⟨k+1,X,E,by omega,rfl,rfl⟩ ?_;exact Ac (by repeat (first | exact FrLe.nil | refine Yp ?_ | refine Yd ?_ | refine FrLe.cons rfl (AVle.int ZbC) ?_)) (HpLe.cons (Ad rfl) (HpLe.cons (Ad rfl) (HpLe.cons (OwLe.cells (CellsLe.cons (AVle.d rfl) (CellsLe.cons (AVle.le (A7t (D.le.refl _))) (CellsLe.cons (AVle.d rfl) (CellsLe.cons (AVle.d rfl) (CellsLe.cons (AVle.d rfl) (CellsLe.cons (AVle.d rfl) (CellsLe.cons (AVle.d rfl) (CellsLe.cons (AVle.d rfl) (CellsLe.cons (AVle.d rfl) CellsLe.nil)))))))))) (HpLe.cons (OwLe.obj rfl) (HpLe.cons (OwLe.obj rfl) HpLe.nil)))))
  .obtain rfl:k=N:=by omega
   refine CT (σ':=⟨[(1,.ptr 0 0),(2,.ptr 1 0),(4,.ptr 2 0),(5,.d (BS (pC L))),(6,.d (eI (AR V 1%((2^3:Nat):Int)))),(7,.d (eN k))],[.var 58 ((Hr T t M L V).map .d),.var 34 (([eI 0,eS,eI 0,eI 0,eI 0,eS,eS,eS,eS]:List D).map .d),.var 34 (([eI 8,orD (eS) (BS (pC L)),eI 0,eI 0,eI 0,eS,eS,NR (sgK V k),Gl (Uf V k)]:List D).map .d),.dead,.dead]⟩) ?wk ?_
   case wk=>exact Ac Zcx (HpLe.cons (OwLe.varD rfl) (HpLe.cons (OwLe.varD rfl) (HpLe.cons (OwLe.cells (CellsLe.cons (AVle.d rfl) (CellsLe.cons (AVle.d rfl) (CellsLe.cons (AVle.d rfl) (CellsLe.cons (AVle.d rfl) (CellsLe.cons (AVle.d rfl) (CellsLe.cons (AVle.d rfl) (CellsLe.cons (AVle.d rfl) (CellsLe.cons (AVle.rows (id:=4) rfl) (CellsLe.cons (AVle.rows (id:=3) rfl) CellsLe.nil)))))))))) (HpLe.cons OwLe.dead (HpLe.cons OwLe.dead HpLe.nil)))))
   refine Go ?_;exact Zhf
theorem Uk(T t:Nat)(M:Nat)(e:M<256)(L:List (Nat×List (Nat->Int)))(s:TM L)(V:List Int)(f:I8 V)(I:V.length<=9223372036854775807):Abs prog 24 [AP (Hr T t M L V)] (AP (EM (Cz M L V))):=by
 by_cases A:M%13=6
 .exact Ul T t M e L s V f I A
 by_cases g:M%13=7
 .exact Uj T t M e L s V f I g
 exact Tr T t M e A g L s V f I
theorem A3r(P Q:List Tm):decide (Db P Q=0)=JT P Q:=by
 rw[YcW,Nj];simp only[YaZ];exact Mn
theorem VT(L:List (Nat×List (Nat->Int))):∀P∈Ba L,PB P 3 9 2:=λP h=>by
 obtain⟨x,_,rfl⟩:=YaD.1 h;exact A61 x.2 2 3 ZbH
theorem Ac5(L:List (Nat×List (Nat->Int))):PB (pC L) 3 9 2:=by
 unfold pC;split
 .exact PB.nil
 .rename_i h
  have O:2%(Ba L).length<(Ba L).length:=YaR _ ZbC;rw[Yaa,Yab O];exact VT L _ (Ybs O)
theorem Mk(z:Nat):(CW z).length<=10:=by
 unfold CW
 repeat' split
 all_goals simp[revRows,Gs]
structure ClOk(kind n d r:Int)(P:List Tm)(o:List (Nat->Int))(s:List Int)(b:List (Nat->RQ×RQ)):Prop where
 kd:1<=kind/\kind<=13
 pb:PB P 3 9 2
 nb:0<=n/\n<=1000
 rb:0<=r/\r<=1000
 rn:0<=r/\r<=n\/kind≠6
 r5:kind=5->r=0
 ob:o.length<=1000
 sb:s.length<=1000
 bb:b.length<=1000
theorem ClOk.mk'{c:Clm}(P:List Tm)(Q:List (List Tm))(F:c.p=P.map EF)(I:c.l=rQ Q)(h:ClOk c.kind c.n c.d c.r P c.o c.s c.b):∃kind P n d r o Q s b,c=⟨kind,P.map EF,n,d,r,o,rQ Q,s,b⟩/\ClOk kind n d r P o s b:=by
 obtain⟨kind,p,n,d,r,o,l,s,b⟩:=c
 dsimp only at F I h
 subst F;subst I;exact⟨_,_,_,_,_,_,_,_,_,rfl,h⟩
theorem A0O(M:Nat)(L:List (Nat×List (Nat->Int)))(V:List Int)(f:I8 V):∃kind P n d r o Q s b,Cz M L V=⟨kind,P.map EF,n,d,r,o,rQ Q,s,b⟩/\ClOk kind n d r P o s b:=by
 have q:=Cj f 1;have K:=Cj f 3;have F:=Ac5 L;have v:M%13<13:=YaR _ ZbH;unfold Cz;by_cases X:M%13=0\/M%13=1\/M%13=9
 .rw [Yao X]
  exact ClOk.mk' (pC L) [] rfl rfl ⟨by dsimp only;omega,F,by dsimp only;omega,by dsimp only;omega,.inl ZbV,λ_=>rfl,by simp,by simp,by simp⟩
 rw[Yaj X];by_cases y:M%13=3
 .rw [Yao y]
  exact ClOk.mk' [] _ rfl rfl ⟨by dsimp only;omega,PB.nil,by dsimp only;omega,by dsimp only;omega,.inl ZbV,λ_=>rfl,by have:=Mk (AR V 2%256).toNat;exact Yau this ZbH,by simp,by simp⟩
 rw[Yaj y];by_cases U:M%13=4
 .rw [Yao U]
  exact ZkI
 rw[Yaj U];by_cases B:M%13=5
 .rw [Yao B]
  exact ClOk.mk' [] [] rfl rfl ⟨by dsimp only;omega,PB.nil,by dsimp only;omega,by dsimp only;omega,.inl ZbV,λh=>(by dsimp only at h;omega),by simp,by simp,by simp⟩
 rw[Yaj B];by_cases G:M%13=6
 .rw [Yao G]
  exact ClOk.mk' [] [] rfl rfl ⟨by dsimp only;omega,PB.nil,by dsimp only;omega,by dsimp only;omega,.inl ZbV,λ_=>rfl,by simp,by simp,by simp;omega⟩
 rw[Yaj G];by_cases A:M%13=7
 .rw [Yao A]
  exact ClOk.mk' (pC L) [] rfl rfl ⟨by dsimp only;omega,F,by dsimp only;omega,by dsimp only;omega,.inl ZbV,λ_=>rfl,by simp,by simp;omega,by simp;omega⟩
 rw[Yaj A];by_cases C:M%13=10
 .rw [Yao C]
  exact ClOk.mk' [] _ rfl rfl ⟨by dsimp only;omega,PB.nil,by dsimp only;omega,by dsimp only;omega,.inl ZbV,λ_=>rfl,by simp,by simp,by simp⟩
 rw[Yaj C];by_cases S:M%13=11\/M%13=12
 .rw [Yao S]
  exact ZkI
 rw[Yaj S];exact ZkI
section
variable {kind kind' n n' d d' r r':Int} {P P':List Tm} {o o':List (Nat->Int)} {s s':List Int} {b b':List (Nat->RQ×RQ)}
end
def FI(p:List Tm):List (List Tm)->Nat
 |[]=>0
 |q::l=>if Db q p<0 then FI p l+1 else 0
theorem VX(p:List Tm):∀l,FI p l<=l.length
 |[]=>Yai _
 |q::l=>by
  unfold FI;split
  .have:=VX p l;exact ZiI
  .exact Yay _
theorem VV(p:List Tm):∀{l:List (List Tm)} {k:Nat},k<FI p l->Db (l.getD k default) p<0
 |[],k,h=>by simp[FI]at h
 |q::l,0,h=>by
  unfold FI at h;split at h
  .assumption
  .omega
 |q::l,k+1,h=>by
  unfold FI at h;split at h
  .exact VV p (l:=l) ZbC
  .omega
theorem VY(p:List Tm):∀{l:List (List Tm)},FI p l<l.length->¬Db (l.getD (FI p l) default) p<0
 |[],h=>by simp[FI]at h
 |q::l,h=>by
  unfold FI at h ⊢;split at h
  .rename_i m
   rw[Yao m];simp only[Ydb];exact VY p (l:=l) Zdj
  .rename_i m
   rw[Yaj m];exact m
noncomputable def GU (plain:Bool) (out:List (List Tm)) (p:List Tm):List (List Tm):=
 if p.length=0\/(plain=true/\Im p=0)\/(FI p out<out.length/\JT (out.getD (FI p out) default) p=true)then out else out.take (FI p out)++p::out.drop (FI p out)
noncomputable def Lp (plain:Bool) (L:List (List Tm)) (k:Nat):List (List Tm):=(L.take k).foldl (λout P=>GU plain out (Ea P)) []
theorem JR(plain:Bool)(L:List (List Tm))(h:n<L.length):Lp plain L (n+1)=GU plain (Lp plain L n) (Ea (L.getD n default)):=by
 unfold Lp;rw[YcX,YeD,Yab h,Yaa,Yab h];rfl
noncomputable abbrev JE (plain:Bool) (L:List (List Tm)):List (List Tm):=Lp plain L L.length
theorem A6i(plain:Bool)(out:List (List Tm))(p:List Tm):(GU plain out p).length<=out.length+1:=by
 unfold GU;split
 .omega
 .exact ZiI
theorem Ln(plain:Bool)(L:List (List Tm)):∀k,k<=L.length->(Lp plain L k).length<=k
 |0,_=>by simp[Lp]
 |k+1,h=>by
  rw[JR plain L ZbC];have q:=A6i plain (Lp plain L k) (Ea (L.getD k default));have A:=Ln plain L k ZbC;omega
theorem A6h(h:uj∈GU o vN vc):uj=vc\/uj∈vN:=by
 unfold GU at h;split at h
 .exact .inr h
 .rcases YbW.1 h with h | h
  .exact .inr (Ybh h)
  .rcases YaL.1 h with h | h
   .exact .inl h
   .exact .inr (YbZ h)
theorem NK{plain:Bool}{L:List (List Tm)}{q:List Tm}:∀{k},k<=L.length->q∈Lp plain L k->∃P∈L,q=Ea P
 |0,_,h=>by simp[Lp]at h
 |k+1,B,h=>by
  rw[JR plain L ZbC]at h;rcases A6h h with h | h
  .refine ⟨_,?_,h⟩
   rw[Yaa,Yab ZbC];exact ZkJ
  .exact NK ZbC h
theorem A0L(h:PB vc 3 9 2):PSz (Ea vc) 1000/\PIn (Ea vc) 0 65535/\(Ea vc).length<=3:=by
 refine⟨?_,?_,by rw[NT];exact h.len⟩
 .unfold Ea
  split
  .intro t L;cases L
  .rename_i c
   have q:=NU vc h.sz h.can ZbC;have A:=Vz (m:=λ_=>0) q h.sz;exact A.mono (by have:=h.len;have:vc.length*9<=3*9:=YaC 9 h.len;omega)
 .unfold Ea
  split
  .intro t L;cases L
  .intro t L
   obtain⟨s,a,rfl⟩:=YaD.1 L;have:=(h.ex.mono (YbP 0) (show(2:Int)<=65535 by decide)) s a;rw[show(λ_:Nat=>(0:Int))=(λ_=>0)from rfl];simpa[Hu]using this
theorem Te(L:List (List Tm))(plain:Bool)(s:∀P∈L,PB P 3 9 2)(I:L.length<=100):Abs prog 61 [Bb L,eB plain] (Bb (JE plain L)):=by
 refine Ab func61 λy=>?_;rw[ntmps61];refine Go ?_;refine AC (λw e=>∃k,k<=L.length/\w=L.length-k/\e=⟨[(0,.d (Bb L)),(1,.d (eB plain)),(5,.d (Bb (Lp plain L k))),(6,.d (eN k))],[]⟩) ?le ⟨0,by omega,rfl,rfl⟩ ?round
 case le=>exact Ac (by exact Yd<|Yd<|FrLe.cons rfl (Gi rfl (D.le.refl _))<|Yd<|FrLe.nil) Zcb
 case round=>
  rintro w _ ⟨k,B,rfl,rfl⟩;by_cases A:k<L.length
  .have C:=s _ (show L.getD k default∈L by rw [Yaa, Yab A]; exact Ybs _)
   obtain⟨W,r,H⟩:=A0L C;have l:=Ln plain L k ZbC;have K:=ZD (L.getD k default) 9 C.sz C.can (C.ex.mono (YbP 0) ZbH) ZbH (Yau C.len ZbH);obtain⟨p,F⟩:∃p,p=Ea (L.getD k default):=⟨_,rfl⟩;obtain⟨O,J⟩:∃O,O=Lp plain L k:=⟨_,rfl⟩;rw[<-F]at K W r H;rw[<-J]at l ⊢
   have Y:∀q∈O,PSz q 1000/\q.length<=3:=λq m=>by
    rw[J]at m;obtain⟨P,Z,rfl⟩:=NK ZbC m;exact⟨(A0L (s P Z)).1,(A0L (s P Z)).2.2⟩
   refine Go ?_;have a:=VX p O;have V:Lp plain L (k+1)=GU plain O p:=by rw[JR plain L A,<-J,<-F]
   have U:=A70 p r ZbC;refine AC (λw e=>∃j,j<=FI p O/\w=O.length-j/\e=⟨[(0,.d (Bb L)),(1,.d (eB plain)),(5,.d (Bb O)),(6,.d (eN k)),(7,.d (BS p)),(8,.d (eN j))],[]⟩) ?le ⟨0,Yay _,rfl,rfl⟩ ?round
   case le=>exact Ac Zds Zcb
   case round=>
    rintro w _ ⟨j,X,rfl,rfl⟩;by_cases M:j<FI p O
    .have G:=VV p M
     have v:=Y (O.getD j default) (by rw[Yaa,Yab ZbC];exact Ybs _);have S:=Vm (O.getD j default) p (v.1.mono ZbH) (W.mono ZbH) ZbC ZbC;refine Go ?_;refine Ai (O.length-(j+1)) ZbC ⟨j+1,by omega,rfl,rfl⟩ ?_;exact Ac Zds Zcb
    .obtain rfl:j=FI p O:=by omega
     by_cases z:FI p O<O.length
     .have G:=VY p z
      have v:=Y (O.getD (FI p O) default) (by rw[Yaa,Yab z];exact Ybs _);have S:=Vm (O.getD (FI p O) default) p (v.1.mono ZbH) (W.mono ZbH) ZbC ZbC;have f:=A1k (O.getD (FI p O) default) p;by_cases N:p.length=0
      .exact Zbr
      cases plain with
      |true=>
       by_cases i:Im p=0
       .exact Zbs
       cases Q:JT (O.getD (FI p O) default) p with
       |true=>
        rw[Q]at f;have E:O=GU true O p:=by rw[GU,Yao (.inr (.inr ⟨z,Q⟩))]
        refine ZfD ?_;exact Ac Zcz Zcb
       |false=>
        rw[Q]at f;have E:O.take (FI p O)++p::O.drop (FI p O)=GU true O p:=by rw[GU,Yaj (by rintro(h | ⟨h,b⟩ | ⟨h,b⟩);exact N h;exact i b;(rw[Q]at b;cases b))]
        refine Ah<|Y1<|Wm<|Wm ?_;refine Wq BH ?_;refine Wq Bc ?_;refine Wm ?_;refine Wg AQ ?_;refine Wg AQ ?_;refine Wg Dt ?_;refine Wg AT ?_;refine Wg AQ ?_;refine Wg (AJ (S)) ?_;refine Wg AL ?_;refine Wq Cw ?_;refine Y0<|Cf<|Cc<|Bz<|BM<|BE<|Yn<|Ah<|Y1<|Wm ?_;refine Wq BH ?_;refine Wq AL ?_;refine Wm ?_;refine Wg AQ ?_;refine Wg AQ ?_;refine Wg AQ ?_;refine Wg (AJ (U)) ?_;refine Wg AL ?_;refine Wg Cw ?_;refine Wq BT ?_;refine Wm ?_;refine Wg AQ ?_;refine Wg AQ ?_;refine Wg BH ?_;refine Wg Bc ?_;refine Wg AQ ?_;refine Wg AQ ?_;refine Wg AQ ?_;refine Wg Dt ?_;refine Wg AT ?_;refine Wg AQ ?_;refine Wg (AJ (f)) ?_;refine Wg Cw ?_;refine Wq BT ?_;refine Y0<|Cf<|Ys<|Y1<|Wm ?_;(refine De rfl rfl ?_;refine ML (Aa rfl) (Aa rfl) rfl rfl rfl rfl rfl ?_;refine⟨_,PartOk.one rfl Zff,?_⟩;refine⟨_,rfl,?_⟩;refine⟨_,rfl,?_⟩);refine Wm<|Wm ?_;refine Wq Oy ?_;refine Wq (Jz (ao rfl) rfl (Aa rfl) (Aa rfl) rfl ZcA ZcA) ?_;refine Wa<|Y0<|AWp.region<|Wm<|Wm<|Wm ?_;refine Wq (MF rfl (Aa rfl) (Aa rfl) rfl (ao rfl) (ao rfl) ZiI) ?_;refine Wm ?_;refine Wq (Jz (ao rfl) rfl (Aa rfl) (Aa rfl) rfl ZcA ZcA) ?_;refine Wa<|AWl.nil<|Bg<|Yn<|AWp.region<|Wm ?_;refine Wq CL ?_;refine Wa<|AWl.nil ?_
        exact Zgj
      |false=>
       cases Q:JT (O.getD (FI p O) default) p with
       |true=>
        rw[Q]at f;have E:O=GU false O p:=by rw[GU,Yao (.inr (.inr ⟨z,Q⟩))]
        refine ZfD ?_;exact Ac Zcz Zcb
       |false=>
        rw[Q]at f;have E:O.take (FI p O)++p::O.drop (FI p O)=GU false O p:=by rw[GU,Yaj (by rintro(h | ⟨h,b⟩ | ⟨h,b⟩);exact N h;cases h;(rw[Q]at b;cases b))]
        refine Ah<|Y1<|Wm<|Wm ?_;refine Wq BH ?_;refine Wq Bc ?_;refine Wm ?_;refine Wg AQ ?_;refine Wg AQ ?_;refine Wg Dt ?_;refine Wg AT ?_;refine Wg AQ ?_;refine Wg (AJ (S)) ?_;refine Wg AL ?_;refine Wq Cw ?_;refine Y0<|Cf<|Cc<|Bz<|BM<|BE<|Yn<|Ah<|Y1<|Wm ?_;refine Wq BH ?_;refine Wq AL ?_;refine Wm ?_;refine Wg AQ ?_;refine Wg AQ ?_;refine Ws ?_;refine Ws ?_;refine Ws ?_;refine Wg BT ?_;refine Wq BT ?_;refine Wm ?_;refine Wg AQ ?_;refine Wg AQ ?_;refine Wg BH ?_;refine Wg Bc ?_;refine Wg AQ ?_;refine Wg AQ ?_;refine Wg AQ ?_;refine Wg Dt ?_;refine Wg AT ?_;refine Wg AQ ?_;refine Wg (AJ (f)) ?_;refine Wg Cw ?_;refine Wq BT ?_;refine Y0<|Cf<|Ys<|Y1<|Wm ?_;(refine De rfl rfl ?_;refine ML (Aa rfl) (Aa rfl) rfl rfl rfl rfl rfl ?_;refine⟨_,PartOk.one rfl Zff,?_⟩;refine⟨_,rfl,?_⟩;refine⟨_,rfl,?_⟩);refine Wm<|Wm ?_;refine Wq Oy ?_;refine Wq (Jz (ao rfl) rfl (Aa rfl) (Aa rfl) rfl ZcA ZcA) ?_;refine Wa<|Y0<|AWp.region<|Wm<|Wm<|Wm ?_;refine Wq (MF rfl (Aa rfl) (Aa rfl) rfl (ao rfl) (ao rfl) ZiI) ?_;refine Wm ?_;refine Wq (Jz (ao rfl) rfl (Aa rfl) (Aa rfl) rfl ZcA ZcA) ?_;refine Wa<|AWl.nil<|Bg<|Yn<|AWp.region<|Wm ?_;refine Wq CL ?_;refine Wa<|AWl.nil ?_
        exact Zgj
     .by_cases N:p.length=0
      .exact Zbr
      cases plain with
      |true=>
       by_cases i:Im p=0
       .exact Zbs
       have E:O.take (FI p O)++p::O.drop (FI p O)=GU true O p:=by rw[GU,Yaj (by rintro(h | ⟨h,b⟩ | ⟨h,b⟩);exact N h;exact i b;exact z h)]
       refine Ah<|Y1<|Wm<|Wm ?_;refine Wq BH ?_;refine Wq AL ?_;refine Wm ?_;refine Ws ?_;refine Ws ?_;refine Ws ?_;refine Ws ?_;refine Ws ?_;refine Ws ?_;refine Ws ?_;refine Wq BT ?_;refine Y0<|Cf<|Cc<|Bz<|BM<|BE<|Yn<|Ah<|Y1<|Wm ?_;refine Wq BH ?_;refine Wq AL ?_;refine Wm ?_;refine Wg AQ ?_;refine Wg AQ ?_;refine Wg AQ ?_;refine Wg (AJ (U)) ?_;refine Wg AL ?_;refine Wg Cw ?_;refine Wq BT ?_;refine Wm ?_;refine Wg AQ ?_;refine Wg AQ ?_;refine Wg BH ?_;refine Wg AL ?_;refine Wg AQ ?_;refine Ws ?_;refine Ws ?_;refine Ws ?_;refine Ws ?_;refine Ws ?_;refine Ws ?_;refine Wg BT ?_;refine Wq BT ?_;refine Y0<|Cf<|Ys<|Y1<|Wm ?_;(refine De rfl rfl ?_;refine ML (Aa rfl) (Aa rfl) rfl rfl rfl rfl rfl ?_;refine⟨_,PartOk.one rfl Zff,?_⟩;refine⟨_,rfl,?_⟩;refine⟨_,rfl,?_⟩);refine Wm<|Wm ?_;refine Wq Oy ?_;refine Wq (Jz (ao rfl) rfl (Aa rfl) (Aa rfl) rfl ZcA ZcA) ?_;refine Wa<|Y0<|AWp.region<|Wm<|Wm<|Wm ?_;refine Wq (MF rfl (Aa rfl) (Aa rfl) rfl (ao rfl) (ao rfl) ZiI) ?_;refine Wm ?_;refine Wq (Jz (ao rfl) rfl (Aa rfl) (Aa rfl) rfl ZcA ZcA) ?_;refine Wa<|AWl.nil<|Bg<|Yn<|AWp.region<|Wm ?_;refine Wq CL ?_;refine Wa<|AWl.nil ?_
       exact Zgj
      |false=>
       have E:O.take (FI p O)++p::O.drop (FI p O)=GU false O p:=by rw[GU,Yaj (by rintro(h | ⟨h,b⟩ | ⟨h,b⟩);exact N h;cases h;exact z h)]
       refine Ah<|Y1<|Wm<|Wm ?_;refine Wq BH ?_;refine Wq AL ?_;refine Wm ?_;refine Ws ?_;refine Ws ?_;refine Ws ?_;refine Ws ?_;refine Ws ?_;refine Ws ?_;refine Ws ?_;refine Wq BT ?_;refine Y0<|Cf<|Cc<|Bz<|BM<|BE<|Yn<|Ah<|Y1<|Wm ?_;refine Wq BH ?_;refine Wq AL ?_;refine Wm ?_;refine Wg AQ ?_;refine Wg AQ ?_;refine Ws ?_;refine Ws ?_;refine Ws ?_;refine Wg BT ?_;refine Wq BT ?_;refine Wm ?_;refine Wg AQ ?_;refine Wg AQ ?_;refine Wg BH ?_;refine Wg AL ?_;refine Wg AQ ?_;refine Ws ?_;refine Ws ?_;refine Ws ?_;refine Ws ?_;refine Ws ?_;refine Ws ?_;refine Wg BT ?_;refine Wq BT ?_;refine Y0<|Cf<|Ys<|Y1<|Wm ?_;(refine De rfl rfl ?_;refine ML (Aa rfl) (Aa rfl) rfl rfl rfl rfl rfl ?_;refine⟨_,PartOk.one rfl Zff,?_⟩;refine⟨_,rfl,?_⟩;refine⟨_,rfl,?_⟩);refine Wm<|Wm ?_;refine Wq Oy ?_;refine Wq (Jz (ao rfl) rfl (Aa rfl) (Aa rfl) rfl ZcA ZcA) ?_;refine Wa<|Y0<|AWp.region<|Wm<|Wm<|Wm ?_;refine Wq (MF rfl (Aa rfl) (Aa rfl) rfl (ao rfl) (ao rfl) ZiI) ?_;refine Wm ?_;refine Wq (Jz (ao rfl) rfl (Aa rfl) (Aa rfl) rfl ZcA ZcA) ?_;refine Wa<|AWl.nil<|Bg<|Yn<|AWp.region<|Wm ?_;refine Wq CL ?_;refine Wa<|AWl.nil ?_
       exact Zgj
  .obtain rfl:k=L.length:=by omega
   exact Zfz
section
variable {P:Program} {hp:List Ow} {arg:Operand->AV} {dd:Option Tmp} {ty:TypeId} {ps:String} {af:Array Edge} {gd:Option (Nat×Bool)}
theorem A30{k:IntKind}{a b r:Int}(C:arg x=.d (ex (.int k a)))(M:arg y=.d (ex (.int k b)))(Y:Min.min a b=r):Quiet P hp ⟨dd,.call { callee:=.builtin .min,args:=#[x,y],argTypes:=vt },ty,ps,af,gd⟩ arg (.d (ex (.int k r))):=Y▸Xs C M
theorem A8Y{U:Type}{e n b A H T B i j:Nat}{d:TypeDesc}{f:U->List D}{l:List U}(C:HO hp (arg x)=some (slD T B (l.map f)))(M:arg y=.d (eN i))(p:arg vT=.d (eN j))(L:Tab P t (.slice e) n b z)(q:Tab P e d A H u)(v:A=B)(hi:i<=j)(X:j<=l.length):Quiet P hp ⟨dd,.slice t x (some y) (some vT) none,ty,ps,af,gd⟩ arg (.d (slD T B (((l.take j).drop i).map f))):=by
 have h:=A75 (P:=P) (hp:=hp) (arg:=arg) (dd:=dd) (ty:=ty) (ps:=ps) (af:=af) (gd:=gd) (lo:=some y) (hi:=some vT) (i:=(i:Nat)) (j:=(j:Nat)) C L q v (.inl ⟨y,rfl,M⟩) (.inl ⟨vT,rfl,p⟩) ZbC ZbC (by rw[Yap];omega);rw[show((j:Nat):Int).toNat=j from rfl,show((i:Nat):Int).toNat=i from rfl,<-Yec,<-Yeb]at h;exact h
end
def nK(L:List (Nat×List (Nat->Int)))(V:List Int):Nat:=min (Ba L).length (1+AR V 0%2).toNat
noncomputable def Hc (L:List (Nat×List (Nat->Int))) (V:List Int):Cor:=
 ⟨2,rQ (JE false ((Ba L).take (nK L V))),rQ (JE true (((Ba L).take (min (Ba L).length (nK L V+1))).drop (nK L V)))⟩
theorem Xy(T t:Nat)(M:Nat)(L:List (Nat×List (Nat->Int)))(s:TM L)(V:List Int)(f:I8 V)(I:V.length<=9223372036854775807):Abs prog 23 [AP (Hr T t M L V)] (AP (Ef (Hc L V))):=by
 have E:=EB T L s;have K:=CI t V f 0 ZbH I;have W:=VT L
 have m:(Ba L).length<=6:=by
  exact ZhY
 have q:=Cj f 0;rw[show Ef (Hc L V)=[eI 2,Bb (JE false ((Ba L).take (nK L V))),Bb (JE true (((Ba L).take (min (Ba L).length (nK L V+1))).drop (nK L V)))]by rw[Fe,Fe];rfl];obtain⟨n,g⟩:∃n,n=nK L V:=⟨_,rfl⟩;have l:((n:Nat):Int)=min (((Ba L).length:Nat):Int) (1+AR V 0%2):=by rw[g,nK];omega
 have F:n<=(Ba L).length:=by omega
 rw[<-g];obtain⟨Q,k⟩:∃Q,Q=Ba L:=⟨_,rfl⟩;rw[<-k]at E W m l F ⊢;clear k g;have B:=Te (Q.take n) false (λP A=>W P (Ybh A)) ZgV;have C:=Te ((Q.take (min Q.length (n+1))).drop n) true (λP A=>W P (Ybh (YbZ A))) ZeZ;refine Ab func23 λy=>?_;rw[ntmps23];refine Go ?_;refine Wq (EA 1 rfl rfl ZbC) ?_;refine Wq Xe ?_;refine Wq (A30 (r:=((n:Nat):Int)) (ao rfl) (ao rfl) ZbC) ?_;refine Go ?_;refine Dy 14 ?_;refine Xq AQ ?_;refine Xq AQ ?_;refine Xq (Ic rfl rfl (Aa rfl) (Aa rfl) rfl F) ?_;refine Xq (AJ (B)) ?_;refine Xq AQ ?_;refine Xq AQ ?_;refine Xq AQ ?_;refine Xq BH ?_;refine Xq AQ ?_;refine Xq CL ?_;refine Xq (A30 (r:=((min Q.length (n+1):Nat):Int)) rfl rfl ZbC) ?_;refine Xq (A8Y rfl rfl rfl (Aa rfl) (Aa rfl) rfl ZbC ZbC) ?_;refine Xq (AJ (C)) ?_;(refine Hq rfl ?_;refine AI (Aa rfl) rfl rfl rfl ?_;(repeat ((first | refine⟨_,Ar (ah rfl),?_⟩ | refine⟨_,Po rfl,?_⟩);refine⟨_,rfl,?_⟩));refine⟨_,rfl,?_⟩;refine⟨_,rfl,?_⟩);refine⟨_,rfl,?_⟩;exact ZfF
section
variable {P:Program} {hp:List Ow} {arg:Operand->AV} {dd:Option Tmp} {ty:TypeId} {ps:String} {af:Array Edge} {gd:Option (Nat×Bool)}
theorem A8W{T U:TypeId}{a b c:Nat}(C:arg x=.d (eN a))(M:arg y=.d (eN b))(G:a*b=c)(h:c<=1000000):Quiet P hp ⟨dd,.binOp .mul T x y U,ty,ps,af,gd⟩ arg (.d (eN c)):=by
 subst G;have e:((a:Int)*(b:Int))=((a*b:Nat):Int):=by simp
 have q:=Xr (P:=P) (hp:=hp) (dd:=dd) (ty:=ty) (ps:=ps) (af:=af) (gd:=gd) (T:=T) (U:=U) C M (by rw[e];omega) (by rw[e];omega);rw[e]at q;exact q
end
def FC(L:List (List (List Tm))):D:=slD 24 1 (L.map λQ=>[Bb Q])
theorem NH(L:List (List (List Tm))):FC L=TI (L.map rQ):=by
 unfold FC TI;rw[Ycj];congr 1;exact YaS λQ _=>by rw[Fe];rfl
def GJ(Q:List (List Tm))(c k:Nat):List (List (List Tm)):=(List.range k).map λi=>pQ Q (i*c) c
theorem JZ(Q:List (List Tm))(r c:Nat)(Y:r<=100)(G:c<=100)(I:Q.length<=9223372036854775807):Abs prog 114 [Bb Q,eN r,eN c] (FC (GJ Q c r)):=by
 obtain⟨F,hF⟩:∃F:Nat->List (List Tm),F=λi=>pQ Q (i*c) c:=⟨_,rfl⟩;rw[show GJ Q c r=(List.range r).map F by rw[hF];rfl];have A:∀k,(List.range (k+1)).map F=(List.range k).map F++[F k]:=λk=>by rw[YcB,Ycg];rfl
 refine Ab func114 λy=>?_;rw[ntmps114];refine Go ?_;refine AC (λw e=>∃k,k<=r/\w=r-k/\e=⟨[(0,.d (Bb Q)),(1,.d (eN r)),(2,.d (eN c)),(7,.own 0),(8,.d (eN k))],[.row 24 1 (((List.range k).map F).map λP=>[Bb P])]⟩) ?le ⟨0,by omega,rfl,rfl⟩ ?round
 case le=>exact Ac ZcO Zdt
 case round=>
  rintro w _ ⟨k,B,rfl,rfl⟩;by_cases O:k<r
  .have C:k*c<=10000:=Yau (YaX (show k<=100 by omega) G) ZbH
   have q:Abs prog 62 [Bb Q,eN (k*c),eN c] (Bb (F k)):=by
    rw[hF];exact Ex Q (k*c) c ZbC ZbC I
   refine Ah<|Y1<|Wm<|Wm ?_;refine Wq Bc ?_;refine Y0<|Ct<|Ys<|Ah<|AWp.block<|AWp.region<|Wm<|Wm<|Wm<|Wm ?_;refine Wq (A8W (c:=k*c) (ao rfl) (ao rfl) rfl ZbC) ?_;refine Wm ?_;refine Wq (AJ (q)) ?_;(refine De rfl rfl ?_;(refine Dc (Aa rfl) (Aa rfl) rfl rfl rfl rfl rfl ?_;(repeat ((first | refine⟨_,Ar (ao rfl),?_⟩ | refine⟨_,Po rfl,?_⟩);refine⟨_,rfl,?_⟩));refine⟨_,rfl,?_⟩));(refine EC (ao rfl) rfl rfl (Aa rfl) (Aa rfl) rfl rfl ZcA ZcA rfl ZbI rfl ?_);refine Wa<|AWl.nil<|Bg<|Yn<|AWp.region<|Wm ?_;refine Wq CL ?_;refine Wa<|AWl.nil ?_
   refine Ai (r-(k+1)) ZbC ⟨k+1,by omega,rfl,rfl⟩ ?_;exact Ac ZcO (by(refine HpLe.cons (OwLe.row (by rw[A,Ycg];rfl)) ?_);exact HpLe.nil)
  .obtain rfl:k=r:=by omega
   exact Zfz
def Re(Q:List Rat):D:=slD 111 4 (Q.map DE)
theorem A5z(Q:List Rat):Re Q=Hn (Q.map Mq):=by
 unfold Re Hn;rw[Ycj];rfl
def Vy(Q:List Rat):Nat->Nat
 |0=>0
 |n+1=>if Q.getD n default=0 then Vy Q n else n+1
theorem A55(Q:List Rat):∀n,Vy Q n<=n
 |0=>Yai 0
 |n+1=>by
  unfold Vy;have:=A55 Q n;split<;>omega
theorem A41(Q:List Rat)(V:Q.length<=100000):Abs prog 217 [Re Q] (Re (Q.take (Vy Q Q.length))):=by
 refine Ab func217 λy=>?_;rw[ntmps217];refine Go ?_;refine AC (λw e=>∃M,M<=Q.length/\Vy Q M=Vy Q Q.length/\w=M/\e=⟨[(0,.d (Re Q)),(3,.d (eN M))],[]⟩) ?le ⟨Q.length,Yai _,rfl,rfl,rfl⟩ ?round
 case le=>exact Ac (by exact Yd<|Yd<|FrLe.nil) Zcb
 case round=>
  rintro w _ ⟨M,a,L,rfl,rfl⟩;by_cases c:w=0
  .have g:Vy Q Q.length=w:=by rw [<-L, c];rfl
   rw[g];exact Zfz
  .have O:w-1<Q.length:=by omega
   have q:1<=w:=by omega
   have W:w=(w-1)+1:=by omega
   have f:=GB (Q.getD (w-1) default);by_cases n:Q.getD (w-1) default=0
   .have P:(Q.getD (w-1) default).num.sign=0:=DL.2 n
    have X:Vy Q (w-1)=Vy Q Q.length:=by rw[<-L,W,Vy,Ycd,Yao n]
    refine Go ?_;refine Ai (w-1) ZbC ⟨w-1,by omega,X,rfl,rfl⟩ ?_;exact Ac (by exact Yd<|Yd<|FrLe.nil) Zcb
   .have P:¬(Q.getD (w-1) default).num.sign=0:=λh=>n (DL.1 h)
    have X:Vy Q Q.length=w:=by rw[<-L,W,Vy,Yaj n]
    rw[X];exact Zfz
def TJ(V:List Int)(n:Nat):List Rat:=(V.take (n+1)).map λz:Int=>(z:Rat)
def La(V:List Int)(n:Nat):List Rat:=(TJ V n).take (Vy (TJ V n) (TJ V n).length)
theorem ME(T:Nat)(V:List Int)(f:I8 V)(n:Nat)(g:n<=100)(I:V.length<=9223372036854775807):Abs prog 116 [OR T V,eN n] (Re (La V n)):=by
 have p:∀k,k<V.length->((V.take (k+1)).map λz:Int=>(z:Rat)).map DE=((V.take k).map λz:Int=>(z:Rat)).map DE++[DE ((V.getD k default:Int):Rat)]:=λk B=>by
  rw[YcX,Ycg,Ycg,Yaa,Yab B];rfl
 have A:=A41 (TJ V n) (by rw[TJ,Yap,YaO];omega);have r:V.take (min V.length (n+1))=V.take (n+1):=by rw[Nat.min_comm,<-List.take_eq_take_min]
 refine Ab func116 λy=>?_;rw[ntmps116];refine Go ?_;refine AC (λw e=>∃k,k<=min V.length (n+1)/\w=min V.length (n+1)-k/\e=⟨[(0,.d (OR T V)),(1,.d (eN n)),(5,.own 0),(6,.d (eN k))],[.row 111 4 (((V.take k).map λz:Int=>(z:Rat)).map DE)]⟩) ?le ⟨0,by omega,rfl,rfl⟩ ?round
 case le=>exact Ac ZeC Zdt
 case round=>
  rintro w _ ⟨k,B,rfl,rfl⟩;by_cases O:k<min V.length (n+1)
  .have X:k<V.length:=by omega
   have q:-128<=V.getD k default/\V.getD k default<=127:=f _ ZdR;have C:=Fa (V.getD k default) ZbC ZbC;refine Ah<|Y1<|Wm<|Wm ?_;refine Wq BH ?_;refine Wq Bc ?_;refine Wm ?_;refine Wg AQ ?_;refine Wg AQ ?_;refine Wg Bc ?_;refine Wq Cw ?_;refine Y0<|Ct<|Ys<|Ah<|AWp.block<|AWp.region<|Wm<|Wm<|Wm ?_;refine Wq Dt ?_;refine Wq AT ?_;refine Wq (Ge (ao rfl) (Aa rfl) (Aa rfl) ZbC ZbC) ?_;refine Wq (AJ (C)) ?_;refine Wq (Cb (ao rfl) (Aa rfl) (Aa rfl) rfl rfl rfl rfl rfl) ?_;(refine Ap ?_);refine Wa<|AWl.nil<|Bg<|Yn<|AWp.region<|Wm ?_;refine Wq CL ?_;refine Wa<|AWl.nil ?_
   refine Ai (min V.length (n+1)-(k+1)) ZbC ⟨k+1,by omega,rfl,rfl⟩ ?_;exact Ac ZeC (by exact HpLe.cons (OwLe.row (p k X).symm)<|HpLe.nil)
  .have W:((V.take k).map λz:Int=>(z:Rat))=TJ V n:=by
    rw[TJ];congr 1;rw[show k=min V.length (n+1)by omega,r]
   rw[W];by_cases X:k<V.length
   .obtain rfl:k=min V.length (n+1):=by omega
    refine Ah<|Y1<|Wm<|Wm ?_;refine Wq BH ?_;refine Wq Bc ?_;refine Wm ?_;refine Wg AQ ?_;refine Wg AQ ?_;refine Wg AL ?_;refine Wq Cw ?_;refine Y0<|Cf<|Cc<|Bz<|BM<|BE<|Yn<|Y1<|Wm ?_
    refine Bi (σ':=⟨[(28,.d (Re (TJ V n)))],[]⟩) ?wk1 ?_
    case wk1=>exact Ac ZeI Zcb
    refine Go ?_;exact Yf
   .obtain rfl:k=min V.length (n+1):=by omega
    refine Ah<|Y1<|Wm<|Wm ?_;refine Wq BH ?_;refine Wq AL ?_;refine Wm ?_;refine Ws ?_;refine Ws ?_;refine Ws ?_;refine Wq BT ?_;refine Y0<|Cf<|Cc<|Bz<|BM<|BE<|Yn<|Y1<|Wm ?_
    refine Bi (σ':=⟨[(28,.d (Re (TJ V n)))],[]⟩) ?wk2 ?_
    case wk2=>exact Ac ZeI Zcb
    refine Go ?_;exact Yf
abbrev Aq:D:=eS
abbrev i0D:D:=eI 0
abbrev EN(n:Int)(C g o c q s a E x b:D):List D:=[eI n,C,g,o,c,q,s,i0D,i0D,i0D,i0D,i0D,i0D,i0D,i0D,Aq,Aq,Aq,Aq,Aq,Aq,Aq,Aq,Aq,a,E,x,b]
theorem AbO(h:n<=3):IntKind.i64.wrap ((n:Int)*((n:Int)-1))=((n*(n-1):Nat):Int):=by
 rcases(by omega:n=0\/n=1\/n=2\/n=3)with rfl | rfl | rfl | rfl<;>rfl
theorem A9m(n:Nat)(h:n<=1000):IntKind.i64.wrap (((n:Nat):Int).tdiv 2)=((n/2:Nat):Int):=by
 rw[YbY ZbC];have e:((n:Nat):Int)/2=((n/2:Nat):Int):=by omega
 rw[e];exact Zgi
theorem A4U{z r:Int}(h:z=r)(A:0<=r/\r<=1000000):IntKind.i64.wrap z=r:=by
 subst h;exact Zgi
theorem AbN(M:j=(n:Int))(h:a=(n:Int)+1)(G:n<=12):IntKind.i64.wrap (j*a)=((n*(n+1):Nat):Int):=by
 subst M;have A:n*(n+1)<=12*13:=YaX G ZbC;refine A4U ?_ ZbC;rw[h];simp
theorem A51(h:n<256):IntKind.u8.wrap ((n:Nat):Int)=((n:Nat):Int):=by
 rw[A53];omega
theorem A18(Q:List (List Tm))(g m:Nat)(R:g<=3)(v:m<=100)(I:Q.length<=9223372036854775807):Abs prog 115 [AP (EN 0 Aq Aq Aq Aq Aq Aq Aq Aq Aq Aq),Bb Q,eN g,eN m,eB false] (AP (EN 0 Aq (Bb (pQ Q 0 g)) (Er (CW g)) (FC (GJ Q m g)) Aq Aq Aq Aq Aq Aq)):=by
 have r:=Ex Q 0 g ZbH ZbC I;have f:=PL g ZbC;have q:=JZ Q g m ZbC v I;refine Ab func115 λy=>?_;rw[ntmps115];apply Y1;refine Bx ?_;refine Al ?_;refine Y0<|Y1<|Wm<|Wm ?_;refine Wq (AJ (r)) ?_;refine Wm ?_;refine Wq (AO (r:=((g:Nat):Int)) (ao rfl) (Aa rfl) (Aa rfl) (A51 ZbC)) ?_;refine Wq (AJ (f)) ?_;refine Wm<|Wm<|Wm ?_;refine Wq (AJ (q)) ?_;refine Wq AB ?_;refine Dg (ao rfl) (ao rfl) rfl (Aa rfl) ZbS rfl rfl ?_;refine Wq AB ?_;refine Dg (ao rfl) (ao rfl) rfl (Aa rfl) ZbS rfl rfl ?_;refine Wq AB ?_;refine Dg (ao rfl) (ao rfl) rfl (Aa rfl) ZbS rfl rfl ?_;refine Y0<|Ah<|Y1<|Wm<|Y0<|Cf<|Ys<|Y1 ?_;refine Wq AF ?_;refine Sf ?_;refine Y0<|BR ?_
 exact Zkg
theorem Nv(Q:List (List Tm))(g m:Nat)(R:g<=3)(v:m<=100)(I:Q.length<=9223372036854775807):Abs prog 115 [AP (EN 0 Aq Aq Aq Aq Aq Aq Aq Aq Aq Aq),Bb Q,eN g,eN m,eB true] (AP (EN 0 Aq (Bb (pQ Q 0 g)) (Er (CW g)) (FC (GJ Q m g)) (FC (GJ Q g m)) (FC (GJ Q g (g*(g-1)/2))) Aq Aq Aq Aq)):=by
 have r:=Ex Q 0 g ZbH ZbC I;have f:=PL g ZbC;have A:=JZ Q g m ZbC v I;have O:=JZ Q m g v ZbC I;have q:g*(g-1)<=3*3:=YaX R (show g-1<=3 by omega);have a:=JZ Q (g*(g-1)/2) g ZbC ZbC I;refine Ab func115 λy=>?_;rw[ntmps115];apply Y1;refine Bx ?_;refine Al ?_;refine Y0<|Y1<|Wm<|Wm ?_;refine Wq (AJ (r)) ?_;refine Wm ?_;refine Wq (AO (r:=((g:Nat):Int)) (ao rfl) (Aa rfl) (Aa rfl) (A51 ZbC)) ?_;refine Wq (AJ (f)) ?_;refine Wm<|Wm<|Wm ?_;refine Wq (AJ (A)) ?_;refine Wq AB ?_;refine Dg (ao rfl) (ao rfl) rfl (Aa rfl) ZbS rfl rfl ?_;refine Wq AB ?_;refine Dg (ao rfl) (ao rfl) rfl (Aa rfl) ZbS rfl rfl ?_;refine Wq AB ?_;refine Dg (ao rfl) (ao rfl) rfl (Aa rfl) ZbS rfl rfl ?_;refine Y0<|Ah<|Y1<|Wm<|Y0<|Ct<|AWp.region<|Wm<|Wm<|Wm ?_;refine Wq (AJ (O)) ?_;refine Wm<|Wm<|Wm ?_;refine Wq A1m ?_;refine Wq (Hj (r:=((g*(g-1):Nat):Int)) (ao rfl) (ao rfl) (AbO R)) ?_;refine Wq (Hh (r:=((g*(g-1)/2:Nat):Int)) (ao rfl) (ao rfl) ZbH (A9m _ ZbC)) ?_;refine Wm ?_;refine Wq (AJ (a)) ?_;refine Wq AB ?_;refine Dg (ao rfl) (ao rfl) rfl (Aa rfl) ZbS rfl rfl ?_;refine Wq AB ?_;refine Dg (ao rfl) (ao rfl) rfl (Aa rfl) ZbS rfl rfl ?_;refine Y0<|Y1 ?_;refine Wq AF ?_;refine Sf ?_;refine Y0<|BR ?_
 exact Zkg
abbrev gN(V:List Int):Nat:=(AR V 4%4).toNat
theorem A4E(T t:Nat)(M:Nat)(L:List (Nat×List (Nat->Int)))(s:TM L)(V:List Int)(f:I8 V)(I:V.length<=9223372036854775807)(W:Int)(E:List (List Tm))(Z:E.length<=12)(F X Y S A:D)(n d r:Int)(p:List (List Tm))(G:p.length<=12):Abs prog 49 [AP (Hr T t M L V),AP [eI W,Bb E,F],AP [eI 1,X,eI n,eI d,eI r,Y,Bb p,S,A]] (AP (EN 0 (Bb (pQ (Ba L) 1 E.length)) Aq Aq Aq Aq Aq Aq Aq Aq Aq)):=by
 have C:=EB T L s
 have m:(Ba L).length<=6:=by
  exact ZhY
 have q:=CI t V f 4 ZbH I;have Q:=Cj f 4;obtain⟨g,R⟩:∃g:Nat,g=gN V:=⟨_,rfl⟩;have J:AR V 4%4=((g:Nat):Int):=Zjj
 have B:g<=3:=by omega
 try rw[<-R]
 have K:=Ex (Ba L) 1 E.length ZbH ZbC ZbC;refine Ab func49 λy=>?_;refine Zhg ?_;refine Gg (τ:=⟨[(3,.ptr 0 0),(4,.ptr 1 0),(5,.ptr 2 0),(6,.ptr 3 0),(7,.d (Bb (Ba L))),(8,.d (eN E.length)),(9,.ptr 4 0),(10,.d (eN g))],[.var 58 ((Hr T t M L V).map .d),.var 26 (([eI W,Bb E,F]:List D).map .d),.var 34 (([eI 1,X,eI n,eI d,eI r,Y,Bb p,S,A]:List D).map .d),.var 46 ((EN 0 Aq Aq Aq Aq Aq Aq Aq Aq Aq Aq).map .d),.var 46 ((EN 0 Aq Aq Aq Aq Aq Aq Aq Aq Aq Aq).map .d)]⟩) ZbG [.av (.ptr 0 1),.av (.d (rwD T L)),.av (.d (Bb (Ba L))),.av (.ptr 1 1),.av (.d (Bb E)),.av (.d (eN E.length)),.av (.d (AP (EN 0 Aq Aq Aq Aq Aq Aq Aq Aq Aq Aq))),.av (.ptr 0 2),.av (.d (OR t V)),.av (.d (eI (AR V 4))),.av (.d (eN g)),.newS 46 14 (EN 0 Aq Aq Aq Aq Aq Aq Aq Aq Aq Aq),.av (.d (Bb (Ba L))),.av (.d (eN E.length)),.st 11,.av (.d (eN g))] ZbG ?_ ?_ ?_
 .refine ZfL ?_;refine Zhw ?_;refine Zgy ?_;exact ZgQ
 .exact ZkK
 refine Go ?_;refine AC (λw e=>w=0/\e=⟨[(3,.ptr 0 0),(4,.ptr 1 0),(5,.ptr 2 0),(6,.ptr 3 0),(7,.d (Bb (Ba L))),(8,.d (eN E.length)),(9,.ptr 4 0),(10,.d (eN g)),(11,.d (eI 0))],[.var 58 ((Hr T t M L V).map .d),.var 26 (([eI W,Bb E,F]:List D).map .d),.var 34 (([eI 1,X,eI n,eI d,eI r,Y,Bb p,S,A]:List D).map .d),.var 46 ((EN 0 Aq Aq Aq Aq Aq Aq Aq Aq Aq Aq).map .d),.var 46 ((EN 0 (Bb (pQ (Ba L) 1 E.length)) Aq Aq Aq Aq Aq Aq Aq Aq Aq).map .d)]⟩) ?le ⟨rfl,rfl⟩ ?round
 case le=>exact Ac Zct Zcp
 case round=>
  exact Zbt
theorem A4D(T t:Nat)(M:Nat)(L:List (Nat×List (Nat->Int)))(s:TM L)(V:List Int)(f:I8 V)(I:V.length<=9223372036854775807)(W:Int)(E:List (List Tm))(Z:E.length<=12)(F X Y S A:D)(n d r:Int)(p:List (List Tm))(G:p.length<=12):Abs prog 49 [AP (Hr T t M L V),AP [eI W,Bb E,F],AP [eI 3,X,eI n,eI d,eI r,Y,Bb p,S,A]] (AP (EN ((gN V+1:Nat):Int) (Bb (pQ (Ba L) 1 E.length)) Aq Aq Aq Aq Aq Aq Aq Aq Aq)):=by
 have C:=EB T L s
 have m:(Ba L).length<=6:=by
  exact ZhY
 have q:=CI t V f 4 ZbH I;have Q:=Cj f 4;obtain⟨g,R⟩:∃g:Nat,g=gN V:=⟨_,rfl⟩;have J:AR V 4%4=((g:Nat):Int):=Zjj
 have B:g<=3:=by omega
 try rw[<-R]
 have K:=Ex (Ba L) 1 E.length ZbH ZbC ZbC;refine Ab func49 λy=>?_;refine Zhg ?_;refine Gg (τ:=⟨[(3,.ptr 0 0),(4,.ptr 1 0),(5,.ptr 2 0),(6,.ptr 3 0),(7,.d (Bb (Ba L))),(8,.d (eN E.length)),(9,.ptr 4 0),(10,.d (eN g))],[.var 58 ((Hr T t M L V).map .d),.var 26 (([eI W,Bb E,F]:List D).map .d),.var 34 (([eI 3,X,eI n,eI d,eI r,Y,Bb p,S,A]:List D).map .d),.var 46 ((EN 0 Aq Aq Aq Aq Aq Aq Aq Aq Aq Aq).map .d),.var 46 ((EN 0 Aq Aq Aq Aq Aq Aq Aq Aq Aq Aq).map .d)]⟩) ZbG [.av (.ptr 0 1),.av (.d (rwD T L)),.av (.d (Bb (Ba L))),.av (.ptr 1 1),.av (.d (Bb E)),.av (.d (eN E.length)),.av (.d (AP (EN 0 Aq Aq Aq Aq Aq Aq Aq Aq Aq Aq))),.av (.ptr 0 2),.av (.d (OR t V)),.av (.d (eI (AR V 4))),.av (.d (eN g)),.newS 46 14 (EN 0 Aq Aq Aq Aq Aq Aq Aq Aq Aq Aq),.av (.d (Bb (Ba L))),.av (.d (eN E.length)),.st 11,.av (.d (eN g))] ZbG ?_ ?_ ?_
 .refine ZfL ?_;refine Zhw ?_;refine Zgy ?_;exact ZgQ
 .exact ZkK
 refine Go ?_;refine AC (λw e=>w=0/\e=⟨[(3,.ptr 0 0),(4,.ptr 1 0),(5,.ptr 2 0),(6,.ptr 3 0),(7,.d (Bb (Ba L))),(8,.d (eN E.length)),(9,.ptr 4 0),(10,.d (eN g)),(11,.d (eI 0))],[.var 58 ((Hr T t M L V).map .d),.var 26 (([eI W,Bb E,F]:List D).map .d),.var 34 (([eI 3,X,eI n,eI d,eI r,Y,Bb p,S,A]:List D).map .d),.var 46 ((EN 0 Aq Aq Aq Aq Aq Aq Aq Aq Aq Aq).map .d),.var 46 ((EN ((g+1:Nat):Int) (Bb (pQ (Ba L) 1 E.length)) Aq Aq Aq Aq Aq Aq Aq Aq Aq).map .d)]⟩) ?le ⟨rfl,rfl⟩ ?round
 case le=>exact Ac Zct Zcp
 case round=>
  exact Zbt
theorem A1W(T t:Nat)(M:Nat)(L:List (Nat×List (Nat->Int)))(s:TM L)(V:List Int)(f:I8 V)(I:V.length<=9223372036854775807)(W:Int)(E:List (List Tm))(Z:E.length<=12)(F X Y S A:D)(n d r:Int)(p:List (List Tm))(K:p.length<=12):Abs prog 49 [AP (Hr T t M L V),AP [eI W,Bb E,F],AP [eI 11,X,eI n,eI d,eI r,Y,Bb p,S,A]] (AP (EN 0 Aq Aq Aq (FC (GJ (Ba L) E.length (1+p.length*(p.length+1)/2))) Aq Aq Aq Aq Aq Aq)):=by
 have C:=EB T L s
 have m:(Ba L).length<=6:=by
  exact ZhY
 have q:=CI t V f 4 ZbH I;have Q:=Cj f 4;obtain⟨g,R⟩:∃g:Nat,g=gN V:=⟨_,rfl⟩;have N:AR V 4%4=((g:Nat):Int):=Zjj
 have B:g<=3:=by omega
 try rw[<-R]
 obtain⟨c,G⟩:∃c,c=p.length:=⟨_,rfl⟩;have J:c*(c+1)<=12*13:=YaX ZbC ZbC;rw[<-G];have O:=JZ (Ba L) (1+c*(c+1)/2) E.length ZbC ZbC ZbC;refine Ab func49 λy=>?_;refine Zhg ?_;refine Gg (τ:=⟨[(3,.ptr 0 0),(4,.ptr 1 0),(5,.ptr 2 0),(6,.ptr 3 0),(7,.d (Bb (Ba L))),(8,.d (eN E.length)),(9,.ptr 4 0),(10,.d (eN g))],[.var 58 ((Hr T t M L V).map .d),.var 26 (([eI W,Bb E,F]:List D).map .d),.var 34 (([eI 11,X,eI n,eI d,eI r,Y,Bb p,S,A]:List D).map .d),.var 46 ((EN 0 Aq Aq Aq Aq Aq Aq Aq Aq Aq Aq).map .d),.var 46 ((EN 0 Aq Aq Aq Aq Aq Aq Aq Aq Aq Aq).map .d)]⟩) ZbG [.av (.ptr 0 1),.av (.d (rwD T L)),.av (.d (Bb (Ba L))),.av (.ptr 1 1),.av (.d (Bb E)),.av (.d (eN E.length)),.av (.d (AP (EN 0 Aq Aq Aq Aq Aq Aq Aq Aq Aq Aq))),.av (.ptr 0 2),.av (.d (OR t V)),.av (.d (eI (AR V 4))),.av (.d (eN g)),.newS 46 14 (EN 0 Aq Aq Aq Aq Aq Aq Aq Aq Aq Aq),.av (.d (Bb (Ba L))),.av (.d (eN E.length)),.st 11,.av (.d (eN g))] ZbG ?_ ?_ ?_
 .refine ZfL ?_;refine Zhw ?_;refine ZfQ ?_;refine HYSteps.cons (.q rfl (Ep (r:=((g:Nat):Int)) rfl rfl ((DJ (AR V 4) (j:=2) ZbC).trans N))) ?_;exact ZgQ
 .exact ZkK
 refine Go ?_;refine Wq (Hj (r:=((c*(c+1):Nat):Int)) (ao rfl) (ao rfl) (AbN ZbC ZbC ZbC)) ?_;refine Wq (Hh (r:=((c*(c+1)/2:Nat):Int)) (ao rfl) (ao rfl) ZbH (A9m _ ZbC)) ?_;refine Wq (Dn (r:=((1+c*(c+1)/2:Nat):Int)) (ao rfl) (ao rfl) (A4U ZbC ZbC)) ?_;exact ZfF
theorem A1V(T t:Nat)(M:Nat)(L:List (Nat×List (Nat->Int)))(s:TM L)(V:List Int)(f:I8 V)(I:V.length<=9223372036854775807)(W:Int)(E:List (List Tm))(Z:E.length<=12)(F X Y S A:D)(n d r:Int)(p:List (List Tm))(G:p.length<=12):Abs prog 49 [AP (Hr T t M L V),AP [eI W,Bb E,F],AP [eI 12,X,eI n,eI d,eI r,Y,Bb p,S,A]] (AP (EN 0 Aq (Bb (pQ (Ba L) 0 (gN V))) (Er (CW (gN V))) (FC (GJ (Ba L) E.length (gN V))) Aq Aq Aq Aq Aq Aq)):=by
 have C:=EB T L s
 have m:(Ba L).length<=6:=by
  exact ZhY
 have q:=CI t V f 4 ZbH I;have Q:=Cj f 4;obtain⟨g,R⟩:∃g:Nat,g=gN V:=⟨_,rfl⟩;have J:AR V 4%4=((g:Nat):Int):=Zjj
 have B:g<=3:=by omega
 try rw[<-R]
 have e:=A18 (Ba L) g E.length B ZbC ZbC;refine Ab func49 λy=>?_;refine Zhg ?_;refine Gg (τ:=⟨[(3,.ptr 0 0),(4,.ptr 1 0),(5,.ptr 2 0),(6,.ptr 3 0),(7,.d (Bb (Ba L))),(8,.d (eN E.length)),(9,.ptr 4 0),(10,.d (eN g))],[.var 58 ((Hr T t M L V).map .d),.var 26 (([eI W,Bb E,F]:List D).map .d),.var 34 (([eI 12,X,eI n,eI d,eI r,Y,Bb p,S,A]:List D).map .d),.var 46 ((EN 0 Aq Aq Aq Aq Aq Aq Aq Aq Aq Aq).map .d),.var 46 ((EN 0 Aq Aq Aq Aq Aq Aq Aq Aq Aq Aq).map .d)]⟩) ZbG [.av (.ptr 0 1),.av (.d (rwD T L)),.av (.d (Bb (Ba L))),.av (.ptr 1 1),.av (.d (Bb E)),.av (.d (eN E.length)),.av (.d (AP (EN 0 Aq Aq Aq Aq Aq Aq Aq Aq Aq Aq))),.av (.ptr 0 2),.av (.d (OR t V)),.av (.d (eI (AR V 4))),.av (.d (eN g)),.newS 46 14 (EN 0 Aq Aq Aq Aq Aq Aq Aq Aq Aq Aq),.av (.d (Bb (Ba L))),.av (.d (eN E.length)),.st 11,.av (.d (eN g))] ZbG ?_ ?_ ?_
 .refine ZfL ?_;refine Zhw ?_;refine Zgy ?_;exact ZgQ
 .exact ZkK
 exact ZfF
theorem A4z(T t:Nat)(M:Nat)(L:List (Nat×List (Nat->Int)))(s:TM L)(V:List Int)(f:I8 V)(I:V.length<=9223372036854775807)(W:Int)(E:List (List Tm))(Z:E.length<=12)(F X Y S A:D)(n d r:Int)(p:List (List Tm))(K:p.length<=12)(P:Int)(k:P≠1)(B:P≠3)(O:P≠7)(i:P≠8)(J:P≠9)(h:P≠10)(N:P≠11)(b:P≠12)(c:P≠13):Abs prog 49 [AP (Hr T t M L V),AP [eI W,Bb E,F],AP [eI P,X,eI n,eI d,eI r,Y,Bb p,S,A]] (AP (EN 0 Aq (Bb (pQ (Ba L) 0 (gN V))) (Er (CW (gN V))) (FC (GJ (Ba L) E.length (gN V))) (FC (GJ (Ba L) (gN V) E.length)) (FC (GJ (Ba L) (gN V) (gN V*(gN V-1)/2))) Aq Aq Aq Aq)):=by
 have G:=EB T L s
 have m:(Ba L).length<=6:=by
  exact ZhY
 have q:=CI t V f 4 ZbH I;have Q:=Cj f 4;obtain⟨g,R⟩:∃g:Nat,g=gN V:=⟨_,rfl⟩;have a:AR V 4%4=((g:Nat):Int):=Zjj
 have C:g<=3:=by omega
 try rw[<-R]
 have e:=Nv (Ba L) g E.length C ZbC ZbC;refine Ab func49 λy=>?_;refine Zhg ?_;refine Gg (τ:=⟨[(3,.ptr 0 0),(4,.ptr 1 0),(5,.ptr 2 0),(6,.ptr 3 0),(7,.d (Bb (Ba L))),(8,.d (eN E.length)),(9,.ptr 4 0),(10,.d (eN g))],[.var 58 ((Hr T t M L V).map .d),.var 26 (([eI W,Bb E,F]:List D).map .d),.var 34 (([eI P,X,eI n,eI d,eI r,Y,Bb p,S,A]:List D).map .d),.var 46 ((EN 0 Aq Aq Aq Aq Aq Aq Aq Aq Aq Aq).map .d),.var 46 ((EN 0 Aq Aq Aq Aq Aq Aq Aq Aq Aq Aq).map .d)]⟩) ZbG [.av (.ptr 0 1),.av (.d (rwD T L)),.av (.d (Bb (Ba L))),.av (.ptr 1 1),.av (.d (Bb E)),.av (.d (eN E.length)),.av (.d (AP (EN 0 Aq Aq Aq Aq Aq Aq Aq Aq Aq Aq))),.av (.ptr 0 2),.av (.d (OR t V)),.av (.d (eI (AR V 4))),.av (.d (eN g)),.newS 46 14 (EN 0 Aq Aq Aq Aq Aq Aq Aq Aq Aq Aq),.av (.d (Bb (Ba L))),.av (.d (eN E.length)),.st 11,.av (.d (eN g))] ZbG ?_ ?_ ?_
 .refine Zfw ?_;refine HYSteps.cons (.q rfl (BO rfl G (ArgsLe.cons rfl (D.le.refl _) (ArgsLe.cons rfl (D.le.refl _) (ArgsLe.cons rfl (D.le.refl _) (ArgsLe.cons rfl (D.le.refl _) (ArgsLe.cons rfl (D.le.refl _) ArgsLe.nil))))))) ?_;refine Zhw ?_;refine ZfQ ?_;refine HYSteps.cons (.q rfl (Ep (r:=((g:Nat):Int)) rfl rfl ((DJ (AR V 4) (j:=2) ZbC).trans a))) ?_;exact ZgQ
 .exact ZkK
 exact ZfF
end
