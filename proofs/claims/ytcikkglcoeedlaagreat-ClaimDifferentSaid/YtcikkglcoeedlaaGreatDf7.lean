/- Part 7. No condition. -/
import Derived.Deep.LoopGhost
import Derived.Test.YtcikkglcoeedlaaGreatDf5
import Derived.Test.YtcikkglcoeedlaaGreatDf6
set_option linter.unusedSimpArgs false
set_option linter.unusedVariables false
set_option maxRecDepth 100000
set_option maxHeartbeats 2000000
namespace Go.Proofs.YtcikkglcoeedlaaGreat
open _root_.Go.Proofs.Tryz
open Go.RowKit
variable{a j:Int}{l h vo vY:List Nat}{n b T m c k:Nat}{ut:Option Addr}{vD uS:Rat}{t:TypeId}{z u:Value}{w p uC:World}
theorem Lp:∀(f x:Nat),x<2^f->x<2^(Lib.bitLenAux f x)/\(x≠0->2^(Lib.bitLenAux f x)<=2*x)
 |0,x,h=>by
  have:x=0:=by simpa using h
  subst this;exact⟨by simp[Lib.bitLenAux],λh=>absurd rfl h⟩
 |f+1,x,h=>by
  unfold Lib.bitLenAux;by_cases C:x=0
  .subst C;exact⟨by simp,λh=>absurd rfl h⟩
  .rw [Yai C]
   obtain⟨q,A⟩:=Lp f (x/2) (by rw[Ybr]at h;omega);have e:2^(1+Lib.bitLenAux f (x/2))=2*2^(Lib.bitLenAux f (x/2)):=by rw[YcG]
   refine⟨by rw[e];omega,λ_=>?_⟩;rw[e];by_cases d:x/2=0
   .have T:x=1:=by omega
    subst T
    have:Lib.bitLenAux f (1/2)=0:=by
     show Lib.bitLenAux f 0=0;cases f<;>simp[Lib.bitLenAux]
    rw[this];omega
   .have:=A d;omega
theorem A3h(d:0<n)(q:n<4294967296):∃s:Nat,(32:Int)-(Lib.bitLen n:Int)=s/\s<32/\2147483648<=n*2^s/\(n+1)*2^s<=4294967296:=by
 have Z:=Lp 64 n ZbG;have E:Lib.bitLen n=Lib.bitLenAux 64 n:=rfl;rw[<-E]at Z;generalize Lib.bitLen n=k at Z;obtain⟨A,K⟩:=Z;have K:=K ZbG
 have F:k<=32:=by
  rcases YaD 32 k with h | h
  .have:2^33<=2^k:=Ybn ZbG h
   have e:(2:Nat)^33=8589934592:=by decide
   omega
  .exact h
 have m:1<=k:=by
  rcases Yax k with h | h
  .subst h;simp at A;omega
  .exact h
 refine⟨32-k,by omega,by omega,?_,?_⟩
 .have Y:2^k*2^(32-k)=4294967296:=by rw [<-YcG, show k+(32-k)=32 by omega]
  have B:2^k*2^(32-k)<=2*n*2^(32-k):=YaC _ K;rw[Y,Ybb]at B;omega
 .have Y:2^k*2^(32-k)=4294967296:=by rw [<-YcG, show k+(32-k)=32 by omega]
  have B:(n+1)*2^(32-k)<=2^k*2^(32-k):=YaC _ A;omega
theorem DO{y n:Nat}(h:(Aw y).length=n+1):0<(Aw y).getD n 0:=by
 induction n generalizing y with
 |zero=>
  have N:y≠0:=by rintro rfl;rw[BL]at h;simp at h
  rw[Fh N]at h ⊢;have d:(Aw (y/BB)).length=0:=by simpa using h
  have q:=Br.1 d
  have A:y<BB:=by
   rcases YaD y BB with h | h
   .exact h
   .have:=YeM h CP;omega
  simp[YaS A];omega
 |succ n v=>
  have N:y≠0:=by rintro rfl;rw[BL]at h;simp at h
  rw[Fh N]at h ⊢;have:=v (y:=y/BB) Zdf;exact ZjO
theorem Xy{y n s t:Nat}(I:(Aw y).length=n+1)(L:(Aw y).getD n 0=t)(V:l.length=n+2)(i:BN l)(r:val l=2^s*y)(q:2147483648<=t*2^s)(A:(t+1)*2^s<=4294967296) :
  val (l.take (n+1))=2^s*y/\2147483648<=l.getD n 0:=by
 have P:=Ek I;rw[AK,L]at P
 have j:val ((Aw y).take n)<BB^n:=by
  have:=Ej (Di (BG y) n);exact ZjP
 have o:2^s*y<BB^(n+1):=by
  have K:y+1<=BB^n*(t+1):=Zhr
  have Y:2^s*(y+1)<=2^s*(BB^n*(t+1)):=Yas _ K;have B:2^s*(BB^n*(t+1))=BB^n*((t+1)*2^s):=by rw[Ybl,YaN (2^s)]
  have E:BB^n*((t+1)*2^s)<=BB^n*BB:=Yas _ (by rw[BE];exact A);have f:0<2^s:=Ydb s;rw[Ybr];rw[YaE]at Y;omega
 have b:=Ek V
 have d:l.getD (n+1) 0=0:=by
  rcases Yax (l.getD (n+1) 0)with h | h
  .exact h
  .exfalso
   have:BB^(n+1)*1<=BB^(n+1)*l.getD (n+1) 0:=Yas _ h;omega
 rw[d,Yct,Ybi]at b;refine⟨by rw[<-b,r],?_⟩;have C:=Bh l n;rw[<-b,r]at C;have K:BB^n*t<=y:=by omega
 have Y:2^s*(BB^n*t)<=2^s*y:=Yas _ K;have B:2^s*(BB^n*t)=BB^n*(t*2^s):=by rw[Ybl,YaN (2^s)]
 have E:BB^n*2147483648<=BB^n*(t*2^s):=Yas _ q
 have f:val (l.take n)<BB^n:=by
  have:=Ej (Di i n);exact ZjP
 have F:BB^n*2147483648<BB^n*(l.getD n 0+1):=Zhr
 have:=Ybv F;omega
def DivRel(w wr:World)(q O A:Nat)(b a U Q:List Nat)(m n k:Nat):Prop:=
 U.length=m+1/\BN U/\Blk wr q 335 (wv U)/\Q.length=m-n+1/\BN Q/\Blk wr A 335 (wv Q)/\Blk wr O 335 (wv a) /\
 val (b.drop k)=val (Q.drop k)*val (a.take n)+val (U.drop k)/\U.take k=b.take k/\val (U.drop k)<val (a.take n)/\Ext w wr
theorem Iu(U:List Nat)(k j:Nat)(h:k+j<=U.length):val (U.drop k)=val ((U.drop k).take j)+BB^j*val (U.drop (k+j)):=by
 have q:U.drop k=(U.drop k).take j++(U.drop k).drop j:=(Ycc j _).symm;rw[Ydj]at q;have A:((U.drop k).take j).length=j:=ZiB
 calc val (U.drop k) = val ((U.drop k).take j ++ U.drop (k + j)) := by rw [← q]
  _=_:=by rw[Iv,A]
theorem DivRel.window(q:DivRel w p n b T l h vo vY m c (k+1))(C:k+c<=m)(F:2<=c)(R:c<=h.length)(L:BN h) :
  ∃x post,x.length=c+1/\BN x/\Win p n (vo.take k) x post/\val x<BB*val (h.take c)/\val post=0/\vo=vo.take k++x++post/\val x=vo.getD k 0+BB*val (vo.drop (k+1))/\(vo.take k).length=k:=by
 obtain⟨A,B,K,Y,G,I,f,J,W,X,v⟩:=q
 have O:vo=vo.take k++(vo.drop k).take (c+1)++vo.drop (k+(c+1)):=by
  exact ZjR
 have j:val (h.take c)<BB^c:=by
  have:=Ej (Di L c);rwa [YaO,Ybx R]at this
 have E:=Ee (l:=vo) (k:=k) ZbG;have y:=Iu vo k (c+1) ZbG;have S:=Be B k
 have N:val (vo.drop k)<BB*val (h.take c):=by
  have:BB*(val (vo.drop (k+1))+1)<=BB*val (h.take c):=Yas _ X;rw[YaE]at this;omega
 have e:val (vo.drop (k+(c+1)))=0:=by
  rcases Yax (val (vo.drop (k+(c+1))))with q | q
  .exact q
  .exfalso
   have o:BB^(c+1)*1<=BB^(c+1)*val (vo.drop (k+(c+1))):=Yas _ q;have M:BB*val (h.take c)<=BB*BB^c:=Yas _ (YbV j);have Q:BB^(c+1)=BB*BB^c:=by rw[Ybr,YaN]
   omega
 rw[e,Yct,Ybi]at y;refine⟨(vo.drop k).take (c+1),vo.drop (k+(c+1)),by simp;omega,Di (Rx B k) _,?_,by rw[<-y];exact N,e,O,by rw[<-y];exact E,by simp;omega⟩;unfold Win;rw[<-O];exact K
theorem HF(q:val h=0):val (l++h)=val l:=by rw[Iv,q,Yct,Ybi]
theorem DivRel.step{g o U Q x d post:List Nat}{m A k q:Nat}(h:DivRel w p n b T g o U Q m A (k+1))(E:k+A<=m)(H:g.length=m+1)(F:x.length=A+1)(hU:U=U.take k++x++post)(l:(U.take k).length=k)(r:val post=0)(R:val x=U.getD k 0+BB*val (U.drop (k+1)))
  (s:d.length=A+1) (xa:BN d) (X:Win uC n (U.take k) d post) (j:Only n p uC) (M:q<BB) (IL:val d+q*val (o.take A)=val x) (O:val d<val (o.take A)) (z:w.heap.size<=n) (P:T≠n) (u:b≠n) (xb:b≠T) (xf:w.heap.size<=T) {e:Int} (a:e=(q:Nat)) :
  DivRel w (uC.setCell ⟨T,k,none⟩ (.int .u32 e)) n b T g o (U.take k++d++post) (Q.set k q) m A k:=by
 obtain⟨B,C,K,Y,S,V,f,W,Z,c,v⟩:=h;have sU:BN (U.take k):=Di C k;have sp:BN post:=λy N=>C y (by rw[hU];simp[N]);have t:k<U.length:=by omega
 have xc:Blk uC T 335 (wv Q):=(j.block T (Blk.lt V) P).trans V;have xg:Blk uC b 335 (wv o):=(j.block b (Blk.lt f) u).trans f
 have I:(U.take k++d++post).drop k=d++post:=by
  exact ZhF
 have L:(U.take k++d++post).take k=U.take k:=by
  exact ZhD
 have xe:g.take k=U.take k:=ZaH
 have xd:g.getD k 0=U.getD k 0:=ZaI
 refine⟨?_,?_,?_,by simpa using Y,Do S k M,?_,?_,?_,?_,?_,?_⟩
 .have G:(U.take k++x++post).length=m+1:=by rw [<-hU];exact B
  simp only[Yaa]at G ⊢;omega
 .intro y N
  rcases YbQ.1 N with N | N
  .rcases YbQ.1 N with N | N
   .exact sU y N
   .exact xa y N
  .exact sp y N
 .exact Blk.far X (by exact λe=>P e.symm) _
 .rw [a,<-Jt];exact xc.set k _
 .exact xg.far (by exact xb) _
 .rw [I, HF r, Ee (l:=g) ZbG, Ee (l:=Q.set k q) (by rw [Ycg]; omega), Lh, Cr ZbG, W, xd]
  have:BB*(val (Q.drop (k+1))*val (o.take A)+val (U.drop (k+1)))=BB*val (Q.drop (k+1))*val (o.take A)+BB*val (U.drop (k+1)):=by rw[YaE,Ybb]
  rw[this,YbG];omega
 .rw [L,xe]
 .rw [I,HF r];exact O
 .refine Ext.set ?_ xf _
  exact⟨j.os.trans v.os,j.tape.trans v.tape,j.output.trans v.output,Yat v.size j.size,λi J=>(j.block i (Yaq J v.size) ZbG).trans (v.block J)⟩
theorem A3r{x y m n s:Nat}(C:(Aw x).length=m)(N:(Aw y).length=n+1)(k:n+1<=m)(o:l.length=m+1)(S:val l=2^s*x)(r:val (h.take (n+1))=2^s*y):val (l.drop (m-(n+1)+1))<val (h.take (n+1)):=by
 have q:x<BB^m:=by have:=Ej (BG x);rwa [AK,C]at this
 have A:BB^n<=y:=by
  have e:=Ek N;rw[AK]at e;have:=DO N;have K:BB^n*1<=BB^n*(Aw y).getD n 0:=Yas _ this;omega
 have b:m-(n+1)+1=m-n:=by omega
 rw[b,r]
 have K:val l=val (l.take (m-n))+BB^(m-n)*val (l.drop (m-n)):=by
  have:=Iv (l.take (m-n)) (l.drop (m-n));exact ZhP
 have Z:=Ydb s;have Y:2^s*x<2^s*BB^m:=Ydh q Z
 have B:2^s*BB^m=BB^(m-n)*(2^s*BB^n):=by
  rw[Ybl,<-YcG,show m-n+n=m by omega]
 have E:BB^(m-n)*val (l.drop (m-n))<BB^(m-n)*(2^s*BB^n):=by omega
 have f:=Ybv E;have F:2^s*BB^n<=2^s*y:=Yas _ A;omega
theorem A3s{a b s q r:Nat}(E:0<b)(h:2^s*a=q*(2^s*b)+r)(V:r<2^s*b):a/b=q/\r/2^s=a%b:=by
 have Z:0<2^s:=Ydb s
 have A:(2^s*a)/(2^s*b)=q:=by
  rw[h,YaN q,YcR (YcW Z E),YbJ V,Ybi]
 have B:(2^s*a)%(2^s*b)=r:=by
  exact ZjS
 rw[Nat.mul_div_mul_left _ _ Z]at A;rw[Nat.mul_mod_mul_left]at B;refine⟨A,?_⟩;rw[<-B,Ydx _ Z]
def Lq(x y:Nat)(w:World)(e:Ending)(M:World):Prop:=
 ∃(A K:Option Addr) (n c g k:Nat),e=.returned (.tuple #[.slice A n c,.slice K g k])/\Words M (.slice A n c) (Aw (x/y))/\Words M (.slice K g k) (Aw (x%y))/\Ext w M
theorem Words.form{v:Value}(h:Words w v l):∃A n c,v=.slice A n c:=by
 obtain⟨A,c,rfl,_⟩:=h;exact⟨A,_,c,rfl⟩
theorem A3q(s B:Value)(Z A:List Nat)(w:World)(l:Words w s Z)(E:Words w B A)(h:Z.length<=4398046511104)(O:val Z<val A) :
  Calls prog 319 #[s,B] w (Lq (val Z) (val A) w):=by
 have H:=Af l.small;have K:=Af E.small;replace l:=Af l;replace E:=Af E;have S:Fx (val Z) (val A)<0:=by unfold Fx;rw[Yan O];omega
 have n:Hid ((Aw (val Z)).length<=35184372088832):=by
  have q:(Em Z).length<=Z.length:=Ia Z;rw[Bo H.out]at q;show _<=_;omega
 replace h:=Af h;replace O:=Af O;go_enter func319,ntmps319;go_wp2_with fail;refine(El _ _ _ l.out).mono ?_;rintro e g ⟨v,rfl,G,L⟩;rw[Bo H.out]at G;replace G:=Af G;replace L:=Af L;go_wp2_with fail;refine(El _ _ _ (E.out.ext L.out)).mono ?_;rintro e F ⟨u,rfl,j,P⟩;rw[Bo K.out]at j;replace G:=Af (G.out.ext P);replace P:=Af (L.out.trans P);replace j:=Af j;go_wp2_with fail;refine(Jl _ _ _ _ _ G.out j.out).mono ?_;rintro e J ⟨rfl,C⟩;replace G:=Af (G.out.ext C);replace C:=Af (P.out.trans C);go_wp2_with fail;refine(LX _ _ _ G.out n.out).mono ?_;rintro e N ⟨V,rfl,x,r⟩;obtain⟨Q,M,I,rfl⟩:=x.form;replace x:=Af x;replace r:=Af (C.out.trans r);go_wp2;go_ret2;refine⟨_,_,_,_,_,_,rfl,?_,?_,r.out⟩
 .exact ZiU
 .rw [YaS O.out];exact x.out
theorem A0z(s I:Value)(Z B:List Nat)(w:World)(l:Words w s Z)(E:Words w I B)(h:Z.length<=4398046511104)(N:val B<=val Z)(q:(Aw (val B)).length=1) :
  Calls prog 319 #[s,I] w (Lq (val Z) (val B) w):=by
 have H:=Af l.small;have X:=Af E.small;replace l:=Af l;replace E:=Af E;have U:¬Fx (val Z) (val B)<0:=by unfold Fx;rw[Yai ZbG];split<;>omega
 have n:Hid ((Aw (val Z)).length<=4398046511104):=by
  have q:(Em Z).length<=Z.length:=Ia Z;rw[Bo H.out]at q;show _<=_;omega
 obtain⟨t,L⟩:∃t,Aw (val B)=[t]:=by
  match A:Aw (val B),q with
  |[t],_=>exact⟨t,rfl⟩
 have xa:Hid (val B=t):=by
  show val B=t;rw[<-AK (val B),L];simp[val]
 have o:t<4294967296:=by
  have:=BG (val B) t (by rw[L];simp);rwa [BE]at this
 have m:0<t:=by
  have:=DO (y:=val B) (n:=0) q;rw[L]at this;exact ZjO
 replace h:=Af h;replace N:=Af N;clear q;replace L:=Af L;go_enter func319,ntmps319;go_wp2_with fail;refine(El _ _ _ l.out).mono ?_;rintro e g ⟨v,rfl,G,C⟩;rw[Bo H.out]at G;replace G:=Af G;replace C:=Af C;go_wp2_with fail;refine(El _ _ _ (E.out.ext C.out)).mono ?_;rintro e F ⟨y,rfl,j,P⟩;rw[Bo X.out]at j;replace G:=Af (G.out.ext P);replace P:=Af (C.out.trans P);replace j:=Af j;go_wp2_with fail;refine(Jl _ _ _ _ _ G.out j.out).mono ?_;rintro e Q ⟨rfl,J⟩;replace G:=Af (G.out.ext J);replace j:=j.out.ext J;replace J:=Af (P.out.trans J);rw[L.out]at j;obtain⟨V,T,rfl,a,z,b⟩:=j.open_;obtain⟨M,O,rfl,i,Y⟩:=b ZbV;replace Y:Q.cell? ⟨M,O,none⟩=some (.int .u32 (t:Nat)):=Y 0 ZbV;clear b j;go_wp2_with fail;refine(Qv _ _ t _ G.out n.out m o).mono ?_;rintro e d ⟨v4,rfl,x,r⟩;obtain⟨u,c,K,rfl⟩:=x.form;replace x:=Af x;replace r:=Af (J.out.trans r);have p:val (Aw (val Z))%t<18446744073709551616:=by have:=YaV (val (Aw (val Z))) m;omega
 replace p:=Af p;clear Y;go_wp2_with fail;refine(Oz _ _ p.out).mono ?_;rintro e f ⟨v5,rfl,k,S⟩;obtain⟨R,n5,W,rfl⟩:=k.form;replace x:=Af (x.out.ext S);replace k:=Af k;replace S:=Af (r.out.trans S);go_wp2;go_ret2;refine⟨_,_,_,_,_,_,rfl,?_,?_,S.out⟩
 .have:=x.out;rw[AK]at this;rw[xa.out];exact this
 .have:=k.out;rw[AK]at this;rw[xa.out];exact this
theorem Qo(b K n z Q k:Nat)(pre post u v:List Nat)(w:World)(B:pre.length=k)(q:Win w b pre u post)(S:u.length=n+1)(r:n<=v.length)(x:2<=n)(h:n<=4398046511104)(c:BN u)(A:BN v)(p:K≠b)
  (E:Blk w K 335 (wv v)) (C:n+1<=z) (y:n<=Q) (Y:2147483648<=v.getD (n-1) 0) (O:val u<BB*val (v.take n)) :
  Calls prog 328 #[.slice (some ⟨b,k,none⟩) (n+1) z,.slice (some ⟨K,0,none⟩) n Q] w (A6v w b pre post u (v.take n)):=by
 subst B;refine OK b K 0 n z Q pre post u (v.take n) w q S ZiB x h c (Di A n) p (λi J=>?_) C y ?_ O
 .rw [YaG, E.cell, Ed ZbG]
  simp[J]
 .simp only[Yab,YaK]at Y ⊢
  rw[Yan ZbG];exact Y
set_option maxRecDepth 1000000 in
theorem A0A(R vb:Value)(V d:List Nat)(w:World)(l:Words w R V)(F:Words w vb d)(J:V.length<=4398046511104)(xh:val d<=val V)(C:2<=(Aw (val d)).length) :
  Calls prog 319 #[R,vb] w (Lq (val V) (val d) w):=by
 have xm:=Af l.small;have xx:=Af F.small;replace l:=Af l;replace F:=Af F;have xX:¬Fx (val V) (val d)<0:=by unfold Fx;rw[Yai ZbG];split<;>omega
 have Y:(Aw (val V)).length<=4398046511104:=by
  have B:(Em V).length<=V.length:=Ia V;rw[Bo xm.out]at B;omega
 have H:=BR xh;obtain⟨n,j⟩:∃n,(Aw (val d)).length=n+1:=⟨(Aw (val d)).length-1,by omega⟩;obtain⟨m,xa⟩:∃m,(Aw (val V)).length=m:=⟨_,rfl⟩;have xJ:=DO j;have xK:=Be (BG (val d)) n;generalize L:(Aw (val d)).getD n 0=t at *;unfold BB at xK;obtain⟨s,xr,Z,xv,yf⟩:=A3h xJ xK;rw[xa]at Y H;rw[j]at H C;have xt:1<=n:=by omega
 clear C J;replace L:=Af L;replace j:=Af j;replace xa:=Af xa;replace xh:=Af xh;replace xv:=Af xv;replace yf:=Af yf;replace xr:=Af xr;have xu:=λW=>CB (m-(n+1)+1) ZbG .i64 .i64 W;have xE:((m-(n+1)+1:Nat):Int)=(m:Int)-((n:Int)+1)+1:=by omega
 rw[xE]at xu;clear xE;go_enter func319,ntmps319;go_wp2_with fail;refine(El _ _ _ l.out).mono ?_;rintro e X ⟨v1,rfl,r,u⟩;rw[Bo xm.out]at r;replace r:=Af r;replace u:=Af u;go_wp2_with fail;refine(El _ _ _ (F.out.ext u.out)).mono ?_;rintro e o ⟨v2,rfl,z,f⟩;rw[Bo xx.out]at z;replace r:=Af (r.out.ext f);replace f:=Af (u.out.trans f);replace z:=Af z;go_wp2_with fail;refine(Jl _ _ _ _ _ r.out z.out).mono ?_;rintro e w3 ⟨rfl,xb⟩;replace r:=r.out.ext xb;replace z:=z.out.ext xb;replace xb:=Af (f.out.trans xb);obtain⟨A1,S,rfl,xk,yu,xo⟩:=r.open_;clear xo;obtain⟨A2,T,rfl,xj,xU,xq⟩:=z.open_;obtain⟨b2,o2,rfl,xf,xy⟩:=xq (by rw[j.out];omega);replace xy:w3.cell? ⟨b2,o2+n,none⟩=some (.int .u32 (t:Nat)):=by have:=xy n (by rw[j.out];omega);rw[L.out]at this;exact this
 clear xq;rw[j.out]at xj ⊢;rw[xa.out]at xk ⊢;replace r:=Af r;replace z:=Af z;have yv:(((n+1:Nat):Int)==1)=false:=ZiB
 go_wp2_with fail;refine(Go.Proofs.Tryz.bits_LeadingZeros32 _ _ ZbG ZbG).mono ?_;rintro e w3 ⟨rfl,rfl⟩;rw[YdF,xr.out];have yi:Hid (Words w3 (.slice A1 m S) (Aw (val V))):=by have:=r.out;rw[xa.out]at this;exact this
 have yj:Hid (Words w3 (.slice (some ⟨b2,o2,none⟩) (n+1) T) (Aw (val d))):=by have:=z.out;rw[j.out]at this;exact this
 clear r z xy;go_wp2_with fail;refine(Mw _ _ s _ yi.out (by rw[xa.out];exact Y) Z).mono ?_;rintro e w4 ⟨gu,ul,rfl,xH,xZ,xG,xz,xY,xg⟩;rw[xa.out]at xH ⊢;have z:=Af (yj.out.ext xg);clear yi yj;go_wp2_with fail;refine(Mw _ _ s _ z.out (by rw[j.out];omega) Z).mono ?_;rintro e w5 ⟨gv,vl,rfl,xn,xV,xB,ya,xN,xs⟩;have yk:gv≠gu:=by have:=Blk.lt xz;omega
 rw[j.out]at xn ⊢;clear z;rw[AK]at xY xN;have P:=Af (Xy j.out L.out xn xV xN xv.out yf.out);replace xz:=xz.ext xs;replace xs:=xb.out.trans (xg.trans xs);replace xH:=Af xH;replace xn:=Af xn;replace xZ:=Af xZ;replace xV:=Af xV;replace xY:=Af xY;replace xN:=Af xN;replace xz:=Af xz;replace ya:=Af ya;replace xs:=Af xs;have yB:=Blk.lt xz.out;have yC:=Blk.lt ya.out;have yd:w.heap.size<=gu:=Yat xb.out.size xG;have yg:=xs.out.size;replace yd:=Af yd;replace yg:=Af yg;clear xg xG xB;go_wp2;go_loopw [13] (λi wr=>∃(k:Nat) (U Q:List Nat),k<=m-(n+1)+1/\i=.int .i64 ((k:Int)-1)/\Hid (DivRel w wr gu gv w5.heap.size ul vl U Q m (n+1) k)) (λi _=>(intOf i+1).toNat)
 case atStart=>
  refine⟨m-(n+1)+1,ul,List.replicate (m-(n+1)+1) 0,Yah _,by congr 1;omega,xH.out,xZ.out,xz.out.alloc _,by simp,Cx _,Blk.new _ _ _,ya.out.alloc _,?_,rfl,?_,xs.out.alloc _⟩
  .exact ZaJ
  .exact A3r xa.out j.out H xH.out xY.out P.out.1
 case round=>
  obtain⟨k,U,Q,E,rfl,O⟩:=hrel;by_cases xi:k=0
  .subst xi
   have xM:Hid (Words wr (.slice (some ⟨w5.heap.size,0,none⟩) (m-(n+1)+1) (m-(n+1)+1)) Q):=by
    have:=CI (c:=m-(n+1)+1) O.out.2.2.2.2.2.1 O.out.2.2.2.2.1 (by rw[O.out.2.2.2.1];omega) ZbG;rw[O.out.2.2.2.1]at this;exact this
   have ys:Hid ((U.take (n+1)).length=n+1):=by show _=_;rw[YaO,O.out.1];omega
   have xI:Hid (Words wr (.slice (some ⟨gu,0,none⟩) (n+1) (m+1)) (U.take (n+1))):=by
    have:=CI (c:=m+1) O.out.2.2.1 O.out.2.1 Zfo ZbG;have:=this.take (k:=n+1) Zfo;exact this
   have xc:Hid (val V/val d=val Q/\val (U.take (n+1))/2^s=val V%val d):=by
    have B:=O.out.2.2.2.2.2.2.2.1;have C:=O.out.2.2.2.2.2.2.2.2.2.1;simp only[YaP]at B C;rw[xY.out,P.out.1]at B;rw[P.out.1]at C
    have xT:0<val d:=by
     rcases Yax (val d)with h | h
     .have:=j.out;rw[h,BL]at this;simp at this
     .exact h
    have yt:val (U.take (n+1))=val U:=by
     have e:=Iu U 0 (n+1) Zfo;simp only[YaP,YaG]at e
     have yb:2^s*val d<BB^(n+1):=by
      rw[<-P.out.1];have:=Ej (Di xV.out (n+1));rwa [YaO,xn.out,Ybx ZbG]at this
     rcases Yax (val (U.drop (n+1)))with h | h
     .rw [h,Yct,Ybi]at e;exact e.symm
     .exfalso
      have:BB^(n+1)*1<=BB^(n+1)*val (U.drop (n+1)):=Yas _ h;omega
    rw[yt];exact A3s xT B C
   go_wp2
   refine wp_region_v ZbK [[], [(81, 0)], [], [], [(83, 2), (84, 3)], [], [(85, 4), (86, 5)]] [[], [0], [], [], [2, 3], [], [0, 1, 2, 3, 4, 5]]
    [λv _=>v=.slice (some ⟨w5.heap.size,0,none⟩) (m-(n+1)+1) (m-(n+1)+1),λv M=>∃A n c,v=.slice A n c/\Words M (.slice A n c) (Aw (val V/val d)),λv _=>v=.slice (some ⟨gu,0,none⟩) (m+1) (m+1),λv _=>v=.int .i64 ((n:Int)+1),λv _=>v=.slice (some ⟨gu,0,none⟩) (n+1) (m+1),λv _=>v=.int .i64 (s:Int),λv M=>∃A n c,v=.slice A n c/\Words M (.slice A n c) (Aw (val V%val d))]
    rfl ZbK ZbK ?stab ?steps ?fin
   case stab=>exact .cons (Stab.eq _) (.cons (λ_ _ _ a ⟨A,n,c,B,C⟩=>⟨A,n,c,B,C.ext a⟩) (.cons (Stab.eq _) (.cons (Stab.eq _) (.cons (Stab.eq _) (.cons (Stab.eq _) (.cons (λ_ _ _ a ⟨A,n,c,B,C⟩=>⟨A,n,c,B,C.ext a⟩) .nil))))))
   case steps=>
    refine .cons ?s0 (.cons ?s1 (.cons ?s2 (.cons ?s3 (.cons ?s4 (.cons ?s5 (.cons ?s6 .nil))))))
    case s0=>
     intro M K I E l G p;have xL:K (.tmp 12)=.slice (some ⟨w5.heap.size,0,none⟩) (m-(n+1)+1) (m-(n+1)+1):=l 12 ZbL;exact AB (by simp[execOp,xL,go_sem]) rfl
    case s1=>
     intro M K I E l G p;have yn:K (.tmp 81)=.slice (some ⟨w5.heap.size,0,none⟩) (m-(n+1)+1) (m-(n+1)+1):=E.1 _ rfl;refine Cz (by simp[execOp,resolve,invoke,p,yn,go_sem]) (El _ _ _ (xM.out.ext ((Ext.refl _).drew.trans I))) ?_;rintro e X ⟨v1,rfl,r,u⟩;obtain⟨A1,n1,S,rfl⟩:=r.form;exact⟨_,rfl,u,_,_,_,rfl,by rw[Bo O.out.2.2.2.2.1,<-xc.out.1]at r;exact r⟩
    case s2=>
     intro M K I E l G p;have xF:K (.tmp 10)=.slice (some ⟨gu,0,none⟩) (m+1) (m+1):=l 10 ZbL;exact AB (by simp[execOp,xF,go_sem]) rfl
    case s3=>
     intro M K I E l G p;have e8:K (.tmp 8)=.int .i64 ((n:Int)+1):=l 8 ZbL;exact AB ZeS rfl
    case s4=>
     intro M K I E l G p;have yo:K (.tmp 83)=.slice (some ⟨gu,0,none⟩) (m+1) (m+1):=E.1 _ rfl;have yp:K (.tmp 84)=.int .i64 ((n:Int)+1):=E.2.1 _ rfl;have yw:(n:Int)+1<=(m:Int)+1:=by omega
     have yx:(0:Int)<=(n:Int)+1:=by omega
     exact AB (by simp[execOp,yo,yp,yw,yx,go_sem]) rfl
    case s5=>
     intro M K I E l G p;have e9:K (.tmp 9)=.int .i64 (s:Int):=l 9 ZbL;exact AB (by simp[execOp,e9,go_sem]) rfl
    case s6=>
     intro M K I E l G p;have yq:K (.tmp 85)=.slice (some ⟨gu,0,none⟩) (n+1) (m+1):=E.1 _ rfl;have yr:K (.tmp 86)=.int .i64 (s:Int):=E.2.1 _ rfl;refine Cz (by simp[execOp,resolve,invoke,p,yq,yr,go_sem]) (Ry _ _ s _ (xI.out.ext ((Ext.refl _).drew.trans I)) (by rw[ys.out];omega) Z) ?_;rintro e X ⟨v1,rfl,r,u⟩;obtain⟨A1,n1,S,rfl⟩:=r.form;exact⟨_,rfl,u,_,_,_,rfl,by rw[xc.out.2]at r;exact r⟩
   case fin=>
    intro g M I hF;obtain⟨yy,ym,yh,b,xe⟩:=hF 1 _ rfl;obtain⟨yz,yD,yA,y,xA⟩:=hF 6 _ rfl;simp only[Yay,Ybk,Nat.reduceAdd,Ybf,YaP,Ybe,YbR,Fw,Act.put,YaW,Ybw,YbD,b,y];clear hF b y;replace xe:=Af xe;replace xA:=Af xA;replace I:=Af (O.out.2.2.2.2.2.2.2.2.2.2.trans ((Ext.refl _).drew.trans I));go_wp2;go_ret2;exact⟨_,_,_,_,_,_,rfl,xe.out,xA.out,I.out⟩
  .obtain ⟨k, rfl⟩:∃q, k=q+1:=⟨k-1, by omega⟩
   have xe:((k+1:Nat):Int)-1=k:=by omega
   rw[xe];obtain⟨x,post,xo,xq,xO,xP,xQ,xR,xS,xC⟩:=O.out.window ZbG ZbG Zek xV.out;replace xo:=Af xo;replace xq:=Af xq;replace xO:=Af xO;replace xP:=Af xP;replace xQ:=Af xQ;replace xR:=Af xR;replace xS:=Af xS;replace xC:=Af xC;go_wp2_with fail;rw[show k+(n+1)+1-k=n+1+1 by omega];refine(Qo gu gv (n+1) _ _ k (U.take k) post x vl wr xC.out xO.out xo.out Zek ZbG ZbG xq.out xV.out yk O.out.2.2.2.2.2.2.1 ZbG ZbG P.out.2 xP.out).mono ?_;rintro e w6 ⟨q,x',rfl,N,xw,xW,yc,hO,IL,ye⟩;rw[xo.out]at xw;have xp:q<4294967296:=by rwa [BE]at N
   have xD:Blk w6 w5.heap.size 335 (wv Q):=(hO.block _ (Blk.lt O.out.2.2.2.2.2.1) ZbG).trans O.out.2.2.2.2.2.1;have yl:w6.cell? ⟨w5.heap.size,k,none⟩=some (.int .u32 (Q.getD k 0:Nat)):=by rw[xD.cell,Ed (by rw[O.out.2.2.2.1];omega)]
   have xd:=xD.frozen k;have xl:=O.out.step ZbG xH.out xo.out xR.out xC.out xQ.out xS.out xw xW yc hO N IL ye yd.out ZbG yk ZbG yg.out (e:=(q:Nat)) rfl;replace xl:=Af xl;clear xw xW yc hO IL ye xD N;go_wp2;exact⟨⟨k,_,_,by omega,rfl,xl⟩,by simp[intOf]⟩
theorem MO(s F:Value)(Z C:List Nat)(w:World)(l:Words w s Z)(E:Words w F C)(B:Z.length<=4398046511104)(d:val C≠0) :
  Calls prog 319 #[s,F] w (Lq (val Z) (val C) w):=by
 rcases YaD (val Z) (val C)with h | h
 .exact A3q s F Z C w l E B h
 .by_cases q:(Aw (val C)).length=1
  .exact A0z s F Z C w l E B h q
  .have A:(Aw (val C)).length≠0:=λe=>d (Br.1 e)
   exact A0A s F Z C w l E B h ZbG
theorem FC(h:(Aw n).length<=b):n<BB^b:=by
 have:=Ej (BG n);rw[AK]at this;exact Yaq this (Ybn CP h)
theorem JP{x k:Nat}(h:x<BB^k):(Aw x).length<=k:=by
 induction k generalizing x with
 |zero=>simp at h;subst h;rw[BL];simp
 |succ k v=>
  by_cases C:x=0
  .subst C;rw[BL];simp
  .rw [Fh C]
   simp only[Yay];have:=v (x:=x/BB) (Yby (by rw[Ybr,YaN]at h;exact h));omega
theorem A2E:BB^2=18446744073709551616:=by decide
theorem DR{x y k:Nat}(h:x<=y)(N:(Aw y).length<=k):(Aw x).length<=k:=Yat (BR h) N
def A6R(W:World)(G N k:Nat)(X Y:Value)(wr:World):Prop:=
 ∃(x y:Nat) (A K:Option Addr) (n c g q:Nat),X=.slice A n c/\Y=.slice K g q/\Words wr (.slice A n c) (Aw x)/\Words wr (.slice K g q) (Aw y)/\Nat.gcd x y=G/\y=k/\(Aw x).length<=N/\(Aw y).length<=N/\Ext W wr
def Aam(G:Nat)(m n:Value):Prop:=∃p q:Nat,m=.int .u64 p/\n=.int .u64 q/\p<18446744073709551616/\q<18446744073709551616/\Nat.gcd p q=G
theorem Words.len{n c:Nat}(h:Words w (.slice ut n c) l):n=l.length:=by
 obtain⟨K,k,r,_⟩:=h;injection r
theorem A7J(b z:Bool)(A A':Option Addr)(n c J o:Nat)(x y:Int)(w:World)(h:IsInt w (.bool b) (.slice A n c) x)(f:IsInt w (.bool z) (.slice A' J o) y)(K:(Aw x.natAbs).length<=4398046511104)(xd:(Aw y.natAbs).length<=4398046511104) :
  Calls prog 290 #[.agg #[.bool b,.slice A n c],.agg #[.bool z,.slice A' J o]] w (JB (Nat.gcd x.natAbs y.natAbs) w):=by
 replace h:=Af h;replace f:=Af f;replace K:=Af K;replace xd:=Af xd;go_enter func290,ntmps290;go_wp2
 refine wp_region_v ZbK [[], [(11, 0)], [(12, 1)], [(13, 2)], [], [(15, 4)], [(16, 5)], [(17, 6)]] [[], [0], [0, 1], [0, 1, 2], [], [4], [0, 1, 2, 3, 4, 5], [0, 1, 2, 3, 4, 5, 6]]
  [λv _=>v=.pointer (some ⟨w.heap.size,1,none⟩),λv _=>v=.slice A n c,λv M=>∃A n c,v=.slice A n c/\Words M (.slice A n c) (Aw x.natAbs),λv M=>∃A n c,v=.slice A n c/\Words M (.slice A n c) (Aw x.natAbs),λv _=>v=.pointer (some ⟨w.heap.size+1,1,none⟩),λv _=>v=.slice A' J o,λv M=>∃A n c,v=.slice A n c/\Words M (.slice A n c) (Aw y.natAbs),λv M=>∃A n c,v=.slice A n c/\Words M (.slice A n c) (Aw y.natAbs)]
  rfl ZbK ZbK ?stab ?steps ?fin
 case stab=>exact .cons (Stab.eq _) (.cons (Stab.eq _) (.cons (λ_ _ _ a ⟨A,n,c,B,C⟩=>⟨A,n,c,B,C.ext a⟩) (.cons (λ_ _ _ a ⟨A,n,c,B,C⟩=>⟨A,n,c,B,C.ext a⟩) (.cons (Stab.eq _) (.cons (Stab.eq _) (.cons (λ_ _ _ a ⟨A,n,c,B,C⟩=>⟨A,n,c,B,C.ext a⟩) (.cons (λ_ _ _ a ⟨A,n,c,B,C⟩=>⟨A,n,c,B,C.ext a⟩) .nil)))))))
 case steps=>
  refine .cons ?s0 (.cons ?s1 (.cons ?s2 (.cons ?s3 (.cons ?s4 (.cons ?s5 (.cons ?s6 (.cons ?s7 .nil)))))))
  case s0=>
   intro M i Q E l F S;have W:i (.tmp 2)=.pointer (some ⟨w.heap.size,0,none⟩):=l 2 ZbL;exact AB ZeU rfl
  case s1=>
   intro M i Q E l F S;have xx:i (.tmp 11)=.pointer (some ⟨w.heap.size,1,none⟩):=E.1 _ rfl;have j:M.cell? ⟨w.heap.size,1,none⟩=some (.slice A n c):=Q.cellv (((((Blk.new _ _ _).alloc _).alloc _).drew.cell 1));exact AB (by simp[execOp,xx,j,go_sem]) rfl
  case s2=>
   intro M i Q E l F S;have xy:i (.tmp 12)=.slice A n c:=E.1 _ rfl;refine Cz (by simp[execOp,resolve,invoke,S,xy,go_sem]) (El _ _ _ (h.out.2.ext (((((Ext.refl _).alloc _).alloc _).alloc _).drew.trans Q))) ?_;rintro e m ⟨v1,rfl,U,xa⟩;exact Zhs
  case s3=>
   intro M i Q E l F S;have xN:=E.1 _ rfl;obtain⟨A3,n3,c3,xz,xL⟩:=xN;refine Cz (by simp[execOp,resolve,invoke,S,xz,go_sem]) (LX _ _ _ xL (by have:=K.out;omega)) ?_;rintro e m ⟨v1,rfl,U,xa⟩;exact ZhX
  case s4=>
   intro M i Q E l F S;have s:i (.tmp 3)=.pointer (some ⟨w.heap.size+1,0,none⟩):=l 3 ZbL;exact AB (by simp[execOp,s,go_sem]) rfl
  case s5=>
   intro M i Q E l F S;have xG:i (.tmp 15)=.pointer (some ⟨w.heap.size+1,1,none⟩):=E.1 _ rfl;have j:M.cell? ⟨w.heap.size+1,1,none⟩=some (.slice A' J o):=Q.cellv ((((EQ _ _ ZbV).alloc _).drew.cell 1));exact AB (by simp[execOp,xG,j,go_sem]) rfl
  case s6=>
   intro M i Q E l F S;have xK:i (.tmp 16)=.slice A' J o:=E.1 _ rfl;refine Cz (by simp[execOp,resolve,invoke,S,xK,go_sem]) (El _ _ _ (f.out.2.ext (((((Ext.refl _).alloc _).alloc _).alloc _).drew.trans Q))) ?_;rintro e m ⟨v1,rfl,U,xa⟩;exact Zhs
  case s7=>
   intro M i Q E l F S;have xO:=E.1 _ rfl;obtain⟨A3,n3,c3,xH,xL⟩:=xO;refine Cz (by simp[execOp,resolve,invoke,S,xH,go_sem]) (LX _ _ _ xL (by have:=xd.out;omega)) ?_;rintro e m ⟨v1,rfl,U,xa⟩;exact ZhX
 case fin=>
  intro g M Q hF;obtain⟨AX,nX,cX,s,hX⟩:=hF 3 _ rfl;obtain⟨AY,nY,cY,e7,hY⟩:=hF 7 _ rfl;simp only[Yay,Ybk,Nat.reduceAdd,Ybf,YaP,Ybe,YbR,Fw,Act.put,YaW,Ybw,YbD,s,e7];clear hF s e7;replace hX:=Af hX;replace hY:=Af hY;replace Q:=Af Q;generalize hG:Nat.gcd x.natAbs y.natAbs=G at *;replace hG:=Af hG;go_wp2;go_loopg [5,6] (y.natAbs) (λk X Y wr=>A6R (((w.alloc (Obj.cells #[Value.bool b,Value.slice A n c] 109)).alloc (Obj.cells #[Value.bool z,Value.slice A' J o] 109)).alloc (Obj.cells #[Value.bool false,Value.slice none 0 0] 109)).drew G 4398046511104 k X Y wr)
  case atStart=>exact⟨_,_,_,_,_,_,_,_,rfl,rfl,hX.out,hY.out,hG.out,rfl,K.out,xd.out,Q.out⟩
  case round=>
   obtain⟨p,q,A1,A2,n1,Z,n2,r,rfl,rfl,U,xc,xq,rfl,H,t,xm⟩:=hrel;clear hX hY Q;have xv:=U.len;have xu:=xc.len;by_cases xt:q=0
   .subst xt
    obtain rfl:n2=0:=by rw[xu,BL];rfl
    have I:Hid (p=G):=by show p=G;rw[<-xq];simp
    replace U:=Af U;replace xm:=Af xm;clear xv xu xq xc H t;go_wp2_with fail;refine(EC _ _ _ _ U.out).mono ?_;rintro e R ⟨b2,A2,n2,k2,rfl,xi,P⟩;rw[AK,I.out]at xi;replace P:=Af (xm.out.trans P);replace xi:=Af xi;obtain⟨xb,xg⟩:=P.out.cells;go_wp2;refine bodyPost_ret (v:=.agg #[.bool b2,.slice A2 n2 k2]) Zfd rfl ⟨_,_,_,_,rfl,?_,?_⟩
    .have L:Ty R (w.heap.size+2) 109:=(Fu _ _ ZbV).drew.ext P.out
     exact(xi.out.set L ZbL _).set (L.set _ _) ZbL _
    .exact (((((Ext.refl _).alloc _).alloc _).alloc _).drew.trans P.out |>.set ZcR _).set ZcR _
   .have xo:0<n2:=by
     rcases Yax n2 with d | d
     .exact absurd (Br.1 (xu.symm.trans d)) xt
     .exact d
    by_cases xF:n1<=2/\n2<=2
    .obtain ⟨xn,xr⟩:=xF
     have xE:p<18446744073709551616:=by rw[<-A2E];exact FC ZbG
     have xk:q<18446744073709551616:=by rw[<-A2E];exact FC ZbG
     have xB:(Aw p).length<=2:=by omega
     have xC:(Aw q).length<=2:=by omega
     replace U:=Af U;replace xc:=Af xc;replace xm:=Af xm;replace xq:=Af xq;replace xB:=Af xB;replace xC:=Af xC;replace xE:=Af xE;replace xk:=Af xk;clear xv xu H t;have d1:decide ((n1:Int)<=2)=true:=by simp;omega
     have d2:decide ((n2:Int)<=2)=true:=by simp;omega
     go_wp2_with fail;refine(TU _ _ _ U.out xB.out).mono ?_;rintro e m ⟨rfl,xa⟩;replace xc:=Af (xc.out.ext xa);replace xa:=Af (xm.out.trans xa);go_wp2_with fail;refine(TU _ _ _ xc.out xC.out).mono ?_;rintro e R ⟨rfl,P⟩;replace P:=Af (xa.out.trans P);rw[AK,AK];go_wp2;go_loopw [7,8] (λmm nn wr=>Aam G mm nn/\Hid (Ext (((w.alloc (Obj.cells #[Value.bool b,Value.slice A n c] 109)).alloc (Obj.cells #[Value.bool z,Value.slice A' J o] 109)).alloc (Obj.cells #[Value.bool false,Value.slice none 0 0] 109)).drew wr)) (λ_ nn _=>(intOf nn).toNat)
     case atStart=>exact⟨⟨p,q,rfl,rfl,xE.out,xk.out,xq.out⟩,P.out⟩
     case round=>
      obtain⟨⟨p,q,rfl,rfl,I,N,T⟩,xp⟩:=hrel;clear xq xE xk P xa xm U xc xB xC;replace T:=Af T;by_cases u:q=0
      .subst u
       have xP:Hid (p=G):=by show p=G;rw[<-T.out];simp
       replace I:=Af I;go_wp2_with fail;refine(Oz _ _ I.out).mono ?_;rintro e w3 ⟨v3,rfl,xs,xe⟩;replace xe:=Af (xp.out.trans xe);replace xs:=Af xs;go_wp2_with fail;refine(EC _ _ _ _ xs.out).mono ?_;rintro e R ⟨b2,A2,n2,k2,rfl,xi,P⟩;rw[AK,xP.out]at xi;replace P:=Af (xe.out.trans P);replace xi:=Af xi;obtain⟨xb,xg⟩:=P.out.cells;go_wp2;refine bodyPost_ret (v:=.agg #[.bool b2,.slice A2 n2 k2]) Zfd rfl ⟨_,_,_,_,rfl,?_,?_⟩
       .have L:Ty R (w.heap.size+2) 109:=(Fu _ _ ZbV).drew.ext P.out
        exact(xi.out.set L ZbL _).set (L.set _ _) ZbL _
       .exact (((((Ext.refl _).alloc _).alloc _).alloc _).drew.trans P.out |>.set ZcR _).set ZcR _
      .have xh:(1:Int)<=q:=by omega
       have V:Hid ((p:Int)%q=((p%q:Nat):Int)):=(Ydm _ _).symm;replace I:=Af I;have xM:=Af N;clear N;go_wp2;go_quiet (fail);go_wp2;rw[V.out];refine⟨⟨⟨q,p%q,rfl,rfl,xM.out,?_,?_⟩,xp.out.drewN _⟩,?_⟩
       .have:=YaV p (show 0<q by omega)
        have:=xM.out;omega
       .have:=T.out
        rw[<-this,YcM p q,YeL q p,YcM]
       .have:=YaV p (show 0<q by omega)
        simp only[intOf];omega
    .have xD:(Aw p).length<=4398046511104:=H
     have xJ:Hid (Nat.gcd q (p%q)=G):=by
      show _=G;rw[<-xq,YcM p q,YeL q p,YcM]
     have xA:Hid ((Aw (p%q)).length<=4398046511104):=DR (YbV (YaV p (YbA xt))) t;have xI:Hid (val (Aw q)≠0):=by show _≠0;rw[AK];exact xt
     have O:Hid (p%q<q):=YaV p (YbA xt);replace U:=Af U;replace xc:=Af xc;replace xm:=Af xm;replace xD:=Af xD;replace t:=Af t;clear xv xu xq H xt;have xw:Hid (¬(n1<=2/\n2<=2)):=xF;clear xF;by_cases d1:n1<=2
     .have xl:decide ((n1:Int)<=2)=true:=by simp; omega
      have xj:decide ((n2:Int)<=2)=false:=by have:=xw.out;simp;omega
      clear xw;go_wp2_with fail;refine(MO _ _ _ _ _ U.out xc.out xD.out xI.out).mono ?_;rintro e R ⟨A3,A4,n3,c3,n4,c4,rfl,xs,xf,P⟩;rw[AK,AK]at xf;replace xc:=Af (xc.out.ext P);replace P:=Af (xm.out.trans P);replace xf:=Af xf;clear xs;go_wp2;go_roundg (p%q)
      case measure=>exact O.out
      case rel=>exact⟨_,_,_,_,_,_,_,_,rfl,rfl,xc.out,xf.out,xJ.out,rfl,t.out,xA.out,P.out⟩
     .have xl:decide ((n1:Int)<=2)=false:=by simp; omega
      clear xw;go_wp2_with fail;refine(MO _ _ _ _ _ U.out xc.out xD.out xI.out).mono ?_;rintro e R ⟨A3,A4,n3,c3,n4,c4,rfl,xs,xf,P⟩;rw[AK,AK]at xf;replace xc:=Af (xc.out.ext P);replace P:=Af (xm.out.trans P);replace xf:=Af xf;clear xs;go_wp2;go_roundg (p%q)
      case measure=>exact O.out
      case rel=>exact⟨_,_,_,_,_,_,_,_,rfl,rfl,xc.out,xf.out,xJ.out,rfl,t.out,xA.out,P.out⟩
def A6l(q r:Int)(w:World)(e:Ending)(M:World):Prop:=
 ∃(b z:Bool) (A K:Option Addr) (n c g k:Nat),e=.returned (.tuple #[.agg #[.bool b,.slice A n c],.agg #[.bool z,.slice K g k],.int .i64 0])/\IsInt M (.bool b) (.slice A n c) q/\IsInt M (.bool z) (.slice K g k) r/\Ext w M
theorem Yz{x y q r:Int}(N:y≠0)(h:r+y*q=x)(d:0<=r)(A:r<y.natAbs):x/y=q/\x%y=r:=by
 rcases Int.lt_or_gt_of_ne N with E | hpos
 .have:=(Int.ediv_emod_unique' (a:=x) (b:=y) (r:=r) (q:=q) E).2 ⟨h, d, by omega⟩
  exact this
 .have:=(Int.ediv_emod_unique (a:=x) (b:=y) (r:=r) (q:=q) hpos).2 ⟨h, d, by omega⟩
  exact this
theorem YE{x y:Int}(hy:y≠0)(h:¬x<0\/x.natAbs%y.natAbs=0):x/y=Kb (!(decide (x<0)==decide (y<0))) (x.natAbs/y.natAbs)/\x%y=Kb false (x.natAbs%y.natAbs):=by
  have hyp:0<y.natAbs:=by omega
  have e:=YcY x.natAbs y.natAbs
  have hlt:=YaV x.natAbs hyp
  generalize x.natAbs/y.natAbs=q at *
  generalize x.natAbs%y.natAbs=r at *
  have e':(y.natAbs:Int)*q+r=x.natAbs:=by exact_mod_cast e
  refine Yz hy ?_ (by simp [Kb]) (by simp [Kb];omega)
  have hsx:=Nk (z:=x)
  have hsy:=Nk (z:=y)
  by_cases hx:x<0
  . have hr : r = 0 := by rcases h with h | h
                          . exact absurd hx h
                          . exact h
    subst hr
    by_cases hy2:y<0
    . have ex:(x.natAbs:Int) = -x:=by omega
      have ey:(y.natAbs:Int) = -y:=by omega
      rw [ex,ey] at e'
      simp [Kb,hx,hy2]
      rw [Int.neg_mul] at e'
      omega
    . have ex:(x.natAbs:Int) = -x:=by omega
      have ey:(y.natAbs:Int)=y:=by omega
      rw [ex,ey] at e'
      simp [Kb,hx,hy2]
      rw [YeK]
      omega
  . by_cases hy2:y<0
    . have ex:(x.natAbs:Int)=x:=by omega
      have ey:(y.natAbs:Int) = -y:=by omega
      rw [ex,ey] at e'
      simp [Kb,hx,hy2]
      rw [YeK]
      rw [Int.neg_mul] at e'
      omega
    . have ex:(x.natAbs:Int)=x:=by omega
      have ey:(y.natAbs:Int)=y:=by omega
      rw [ex,ey] at e'
      simp [Kb,hx,hy2]
      omega
theorem Wd(b z:Bool)(A J:Option Addr)(n c g E:Nat)(x y:Int)(w:World)(h:IsInt w (.bool b) (.slice A n c) x)(V:IsInt w (.bool z) (.slice J g E) y)(B:(Aw x.natAbs).length<=4398046511104)(m:(Aw y.natAbs).length<=4398046511104)(N:y≠0)(F:¬x<0\/x.natAbs%y.natAbs=0) :
  Calls prog 291 #[.agg #[.bool b,.slice A n c],.agg #[.bool z,.slice J g E]] w (A6l (x/y) (x%y) w):=by
 have q:=Af h.bool_eq;have f:=Af V.bool_eq;have k:=Af (YE N F);have R:Hid (y.natAbs≠0):=by show _≠0;omega
 replace h:=Af h;replace V:=Af V;replace B:=Af B;replace m:=Af m;replace F:=Af F;go_enter func291,ntmps291;go_wp2_with fail;refine(El _ _ _ (V.out.2.ext (((((Ext.refl _).alloc _).alloc _).alloc _).alloc _))).mono ?_;rintro e C ⟨v,rfl,I,M⟩;rw[Bo (BG _),AK]at I;obtain⟨a,S,K,rfl⟩:=I.form;have U:S≠0:=by rw[I.len];exact λe=>R.out (Br.1 e)
 have xb:((S:Int)==0)=false:=by simpa using U
 clear U I;obtain⟨O,Y⟩:=M.cells;replace M:=Af M;go_wp2_with fail;refine(MO _ _ _ _ _ (h.out.2.ext ((((((Ext.refl _).alloc _).alloc _).alloc _).alloc _).trans M.out)) (V.out.2.ext ((((((Ext.refl _).alloc _).alloc _).alloc _).alloc _).trans M.out)) B.out (by rw[AK];exact R.out)).mono ?_;rintro e G ⟨A3,A4,H,Q,p,X,rfl,o,W,P⟩;rw[AK,AK]at o W
 have xa:Hid (b=false\/p=0):=by
  rcases F.out with F | F
  .left;rw[q.out];simpa using F
  .rw [F]at W
   exact .inr (by rw[W.len,BL];rfl)
 replace P:=Af (M.out.trans P);clear O Y;obtain⟨O,Y⟩:=P.out.cells;replace o:=Af o;replace W:=Af W;clear xb
 cases b with
 |false=>
  clear xa;go_wp2_with fail;refine(EC _ _ _ _ o.out).mono ?_;rintro e Z ⟨b5,A5,n5,i,rfl,t,l⟩;rw[AK,show z = !(decide (x<0)==decide (y<0))by rw[<-q.out,<-f.out];cases z<;>rfl,<-k.out.1]at t;replace W:=Af (W.out.ext l);replace t:=Af t;replace l:=Af (P.out.trans l);clear O Y;obtain⟨O,Y⟩:=l.out.cells;go_wp2_with fail;refine(EC _ _ _ _ W.out).mono ?_;rintro e s ⟨b6,A6,n6,j,rfl,T,r⟩;rw[AK,<-k.out.2]at T;replace t:=Af (t.out.ext r);replace T:=Af T;replace r:=Af (l.out.trans r);clear O Y;obtain⟨O,Y⟩:=r.out.cells;go_wp2;refine bodyPost_ret (v:=.tuple #[.agg #[.bool b5,.slice A5 n5 i],.agg #[.bool b6,.slice A6 n6 j],.int .i64 0]) Zfi rfl ⟨_,_,_,_,_,_,_,_,rfl,?_,?_,?_⟩
  .exact ZaK
  .exact ZaL
  .exact ZjT
 |true=>
  obtain rfl:p=0:=by
   rcases xa.out with d | d
   .cases d
   .exact d
  clear xa;go_wp2_with fail;refine(EC _ _ _ _ o.out).mono ?_;rintro e Z ⟨b5,A5,n5,i,rfl,t,l⟩;rw[AK,show(!z) = !(decide (x<0)==decide (y<0))by rw[<-q.out,<-f.out];cases z<;>rfl,<-k.out.1]at t;replace W:=Af (W.out.ext l);replace t:=Af t;replace l:=Af (P.out.trans l);clear O Y;obtain⟨O,Y⟩:=l.out.cells;go_wp2_with fail;refine(EC _ _ _ _ W.out).mono ?_;rintro e s ⟨b6,A6,n6,j,rfl,T,r⟩;rw[AK,<-k.out.2]at T;replace t:=Af (t.out.ext r);replace T:=Af T;replace r:=Af (l.out.trans r);clear O Y;obtain⟨O,Y⟩:=r.out.cells;go_wp2;refine bodyPost_ret (v:=.tuple #[.agg #[.bool b5,.slice A5 n5 i],.agg #[.bool b6,.slice A6 n6 j],.int .i64 0]) Zfi rfl ⟨_,_,_,_,_,_,_,_,rfl,?_,?_,?_⟩
  .exact ZaK
  .exact ZaL
  .exact ZjT
theorem IsInt.one{q:Bool}(h:IsInt w (.bool q) (.slice ut n b) a)(A:a=1):q=false/\n=1/\∃g o,ut=some ⟨g,o,none⟩/\w.cell? ⟨g,o,none⟩=some (.int .u32 1):=by
 subst A
 have e:Aw (1:Int).natAbs=[1]:=by
  show Aw 1=[1];rw[Fh ZbG];have:(1:Nat)%BB=1:=YaS Uq;have B:(1:Nat)/BB=0:=YbJ Uq;rw[this,B,BL]
 have B:=h.2;rw[e]at B;obtain⟨K,k,r,_,_,C⟩:=B.open_;injection r with E y G
 subst E;subst G;obtain⟨g,o,I,_,F⟩:=C ZbV;exact⟨h.bool_eq,y,g,o,I,F 0 ZbV⟩
theorem A3j(b:Bool)(A:Option Addr)(n c:Nat)(z:Int)(w:World)(h:IsInt w (.bool b) (.slice A n c) z) :
  Calls prog 285 #[.agg #[.bool b,.slice A n c]] w λe M=>e=.returned (.bool (decide (z=1)))/\Ext w M:=by
 cases b with
 |true=>
  have u:Hid (decide (z=1)=false):=by
   have:=h.bool_eq;show _=false;simp at this ⊢;omega
  clear h;go_enter func285,ntmps285;go_wp2;go_ret;exact⟨by rw[u.out];rfl,(Ext.refl _).alloc _⟩
 |false=>
  by_cases J:n=1
  .subst J
   have B:=h.2;have I:=B.len
   obtain⟨t,L⟩:∃t,Aw z.natAbs=[t]:=by
    match G:Aw z.natAbs,I with
    |[t],_=>exact⟨t,rfl⟩
   rw[L]at B;obtain⟨Q,k,r,F,x,C⟩:=B.open_;injection r with E y N
   subst E;subst N;obtain⟨g,o,rfl,T,S⟩:=C ZbV;replace S:w.cell? ⟨g,o,none⟩=some (.int .u32 (t:Nat)):=S 0 ZbV
   have a:Hid (z=(t:Nat)):=by
    have K:z.natAbs=t:=by rw[<-AK z.natAbs,L];simp[val]
    have Y:=h.bool_eq;simp at Y;show z=t;omega
   have O:w.heap.size≠g:=by omega
   clear C B h I y;replace L:=Af L;by_cases q:t=1
   .subst q
    go_enter func285,ntmps285;go_wp2;go_ret;exact⟨by rw[a.out];rfl,(Ext.refl _).alloc _⟩
   .have V:((t:Int)==1)=false:=ZiB
    go_enter func285,ntmps285;go_wp2;go_ret;refine⟨?_,(Ext.refl _).alloc _⟩;have:decide (z=1)=false:=by rw[a.out];exact ZiB
    rw[this];rfl
  .have u:Hid (decide (z=1)=false):=by
    show _=false;simp only[Ydy];intro e;exact J (h.one e).2.1
   have V:((n:Int)==1)=false:=by simp;omega
   clear h;go_enter func285,ntmps285;go_wp2;go_ret;exact⟨by rw[u.out];rfl,(Ext.refl _).alloc _⟩
theorem FO{x y:Int}{N M:Nat}(C:(Aw x.natAbs).length<=N)(B:(Aw y.natAbs).length<=M):(Aw (x*y).natAbs).length<=N+M:=by
 have q:=FC C;have A:=FC B
 have K:(x*y).natAbs<BB^(N+M):=by
  rw[Ycp,YcG];rcases Yax y.natAbs with d | d
  .rw [d,Yct];exact YcW (Yeg CP) (Yeg CP)
  .exact Nat.mul_lt_mul_of_lt_of_le q (YbV A) (Yeg CP)
 exact JP K
theorem DN{x y:Int}(N:0<y):(Rat.divInt x y).num=x/(Nat.gcd x.natAbs y.natAbs:Int)/\((Rat.divInt x y).den:Int)=y/(Nat.gcd x.natAbs y.natAbs:Int):=by
 obtain⟨d,rfl⟩:=YbH (Int.le_of_lt N);have e:d≠0:=by omega
 have:Rat.divInt x (d:Int)=mkRat x d:=rfl;rw[this,<-YdE e,Rat.normalize_eq e];exact⟨rfl,by simp[Ydl]⟩
theorem Uu(a b:Rat):(a*b).num=(Rat.divInt a.num b.den).num*(Rat.divInt b.num a.den).num/\(a*b).den=(Rat.divInt a.num b.den).den*(Rat.divInt b.num a.den).den:=by
 have q:=DN (x:=a.num) (y:=b.den) (by have:=b.den_nz;omega);have A:=DN (x:=b.num) (y:=a.den) (by have:=a.den_nz;omega);have e:a*b=Rat.mul a b:=rfl;rw[e];unfold Rat.mul
 dsimp only
 rw[Int.divExact_eq_ediv,Int.divExact_eq_ediv,Nat.divExact_eq_div,Nat.divExact_eq_div];refine⟨by rw[q.1,A.1];rfl,?_⟩
 have B:(Rat.divInt a.num b.den).den=b.den/Nat.gcd a.num.natAbs b.den:=by
  have:=q.2;simp at this;exact_mod_cast this
 have y:(Rat.divInt b.num a.den).den=a.den/Nat.gcd b.num.natAbs a.den:=by
  have:=A.2;simp at this;exact_mod_cast this
 rw[B,y,YaN]
theorem UM(a b:Rat):a+b=Rat.divInt (a.num*b.den+b.num*a.den) ((a.den:Int)*b.den):=by
 rw[Rat.add_def,YdE];have:((a.den:Int)*b.den)=((a.den*b.den:Nat):Int):=by simp
 rw[this];rfl
theorem TJ(a:Rat)(h:0<a.num):a⁻¹.num=a.den/\(a⁻¹.den:Int)=a.num:=by
 rw[Rat.inv_def];have q:=DN (x:=a.den) (y:=a.num) h;have A:Nat.gcd ((a.den:Int).natAbs) a.num.natAbs=1:=by simpa[YcM]using a.reduced.symm
 rw[A]at q;exact Zjz
theorem TK(a:Rat)(h:a.num<0):a⁻¹.num=-(a.den:Int)/\(a⁻¹.den:Int)=-a.num:=by
 rw[Rat.inv_def,<-Rat.neg_divInt_neg];have q:=DN (x:=-(a.den:Int)) (y:=-a.num) ZbG;have A:Nat.gcd ((-(a.den:Int)).natAbs) (-a.num).natAbs=1:=by simpa[YcM]using a.reduced.symm
 rw[A]at q;exact Zjz
theorem A0B(x:Int):(Rat.divInt x 1).num=x/\((Rat.divInt x 1).den:Int)=1:=by
 have q:=DN (x:=x) (y:=1) ZbG;exact Zjz
theorem SH{x y:Int}(N:0<y)(h:Nat.gcd x.natAbs y.natAbs=1):(Rat.divInt x y).num=x/\((Rat.divInt x y).den:Int)=y:=by
 have q:=DN (x:=x) N;rw[h]at q;exact Zjz
def IsRat(w:World)(X K T N:Value)(q:Rat):Prop:=IsInt w X K q.num/\IsInt w T N (q.den:Int)
theorem IsRat.ext{X K T N:Value}{q:Rat}(h:IsRat w X K T N q)(a:Ext w p):IsRat p X K T N q:=⟨h.1.ext a,h.2.ext a⟩
def put4(w:World)(b:Nat)(A d k q:Value):World:=(((w.setCell ⟨b,0,none⟩ A).setCell ⟨b,1,none⟩ d).setCell ⟨b,2,none⟩ k).setCell ⟨b,3,none⟩ q
theorem IsInt.put4(h:IsInt w z u a){b:Nat}(L:Ty w b t)(B:t≠335)(A d k q:Value):IsInt (put4 w b A d k q) z u a:=
 ((((h.set (p:=⟨b,0,none⟩) L B _).set (p:=⟨b,1,none⟩) (L.set _ _) B _).set (p:=⟨b,2,none⟩) ((L.set _ _).set _ _) B _).set (p:=⟨b,3,none⟩) (((L.set _ _).set _ _).set _ _) B _)
theorem IsRat.put4{X K T N:Value}(h:IsRat w X K T N vD){b:Nat}(L:Ty w b t)(B:t≠335)(A d k q:Value):IsRat (put4 w b A d k q) X K T N vD:=⟨h.1.put4 L B A d k q,h.2.put4 L B A d k q⟩
theorem Ext.put4(h:Ext w p){b:Nat}(E:w.heap.size<=b)(A d k q:Value):Ext w (put4 p b A d k q):=(((h.set (p:=⟨b,0,none⟩) E _).set (p:=⟨b,1,none⟩) E _).set (p:=⟨b,2,none⟩) E _).set (p:=⟨b,3,none⟩) E _
def Aa7(q:Rat)(w:World)(e:Ending)(M:World):Prop:=
 ∃(b z:Bool) (A K:Option Addr) (n c g k:Nat),e=.returned (.agg #[.bool b,.slice A n c,.bool z,.slice K g k])/\IsRat M (.bool b) (.slice A n c) (.bool z) (.slice K g k) q/\Ext w M
def RSz(q:Rat)(N:Nat):Prop:=(Aw q.num.natAbs).length<=N/\(Aw q.den).length<=N
theorem RSz.mono{q:Rat}(h:RSz q n)(x:n<=b):RSz q b:=⟨Yat h.1 x,Yat h.2 x⟩
theorem KS(x:Int)(g:Nat)(T:(g:Int)∣x):(x/(g:Int)).natAbs<=x.natAbs:=by
 obtain⟨k,rfl⟩:=T;rcases Yax g with h | h
 .subst h;simp
 .rw [Int.mul_ediv_cancel_left _ ZbG, Ycp]
  exact Nat.le_mul_of_pos_left _ Zdf
theorem LV{x y:Int}(N:0<y):(Rat.divInt x y).num.natAbs<=x.natAbs/\(Rat.divInt x y).den<=y.natAbs:=by
 have h:=DN (x:=x) N;have q:((Nat.gcd x.natAbs y.natAbs:Nat):Int)∣x:=YcX.2 (YcC _ _);have A:((Nat.gcd x.natAbs y.natAbs:Nat):Int)∣y:=YcX.2 (YbK _ _);refine⟨by rw[h.1];exact KS _ _ q,?_⟩;have:=KS _ _ A;rw[<-h.2]at this;exact ZjO
theorem RSz.divInt{x y:Int}{N:Nat}(q:0<y)(C:(Aw x.natAbs).length<=N)(A:(Aw y.natAbs).length<=N):RSz (Rat.divInt x y) N:=
 ⟨DR (LV q).1 C,DR (LV q).2 A⟩
theorem den_pos(q:Rat):(0:Int)<q.den:=by have:=q.den_nz;omega
theorem RSz.mul{N M:Nat}(hp:RSz vD N)(k:RSz uS M):RSz (vD*uS) (N+M):=by
 have h:=Uu vD uS;have l:=LV (x:=vD.num) (den_pos uS);have r:=LV (x:=uS.num) (den_pos vD);simp only[YaR]at l r;constructor
 .rw [h.1]
  exact FO (DR l.1 hp.1) (DR r.1 k.1)
 .rw [h.2]
  have:=FO (x:=((Rat.divInt vD.num uS.den).den:Int)) (y:=((Rat.divInt uS.num vD.den).den:Int)) (N:=M) (M:=N) (by simpa using DR l.2 k.2) (by simpa using DR r.2 hp.2);rw[Ycp]at this;simpa[Yda]using this
theorem A2e(C:(Aw a.natAbs).length<=n)(N:(Aw j.natAbs).length<=n):(Aw (a+j).natAbs).length<=n+1:=by
 have q:=FC C;have A:=FC N;refine JP ?_;have K:=Int.natAbs_add_le a j;have Y:2*BB^n<=BB^n*BB:=by rw[YaN];exact Yas _ ZbL
 rw[Ybr];omega
theorem Fq(q:Rat)(h:RSz q n):(Aw (q.den:Int).natAbs).length<=n:=by simpa using h.2
theorem RSz.add{p q:Rat}{N M:Nat}(hp:RSz p N)(k:RSz q M):RSz (p+q) (N+M+1):=by
 rw[UM];refine RSz.divInt (YeN (den_pos p) (den_pos q)) ?_ ?_
 .refine A2e (FO hp.1 (Fq q k)) ?_
  have:=FO k.1 (Fq p hp);rwa [Yda]at this
 .exact Yat (FO (Fq p hp) (Fq q k)) ZbG
theorem A8e(h:RSz vD n)(d:vD.num≠0):RSz vD⁻¹ n:=by
 rcases Int.lt_or_gt_of_ne d with q | hp
 .obtain ⟨b,y⟩:=TK vD q
  have A:vD⁻¹.den=vD.num.natAbs:=by omega
  exact⟨by rw[b,Yer];exact Fq vD h,by rw[A];exact h.1⟩
 .obtain ⟨b,y⟩:=TJ vD hp
  have A:vD⁻¹.den=vD.num.natAbs:=by omega
  exact⟨by rw[b];exact Fq vD h,by rw[A];exact h.1⟩
