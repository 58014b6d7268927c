/- Part 7. No condition. -/
import Derived.Deep.LoopGhost
import Derived.Test.YtcikkglcoeedlaaGreatBk5
import Derived.Test.YtcikkglcoeedlaaGreatBk6
set_option linter.unusedSimpArgs false
set_option linter.unusedVariables false
set_option maxRecDepth 100000
set_option maxHeartbeats 2000000
namespace Go.Proofs.YtcikkglcoeedlaaGreat
open _root_.Go.Proofs.Tryz
open Go.RowKit
variable{a j:Int}{l f vo vX:List Nat}{n b T m c k:Nat}{ux:Option Addr}{vA uT:Rat}{t:TypeId}{z u:Value}{w q:World}
theorem Lm:∀(f x:Nat),x<2^f->x<2^(Lib.bitLenAux f x)/\(x≠0->2^(Lib.bitLenAux f x)<=2*x)
 |0,x,h=>by
  have:x=0:=by simpa using h
  subst this;exact⟨by simp[Lib.bitLenAux],λh=>absurd rfl h⟩
 |f+1,x,h=>by
  unfold Lib.bitLenAux;by_cases E:x=0
  .subst E;exact⟨by simp,λh=>absurd rfl h⟩
  .rw [Yai E]
   obtain⟨A,B⟩:=Lm f (x/2) (by rw[Ybq]at h;omega);have e:2^(1+Lib.bitLenAux f (x/2))=2*2^(Lib.bitLenAux f (x/2)):=by rw[YcG]
   refine⟨by rw[e];omega,λ_=>?_⟩;rw[e];by_cases c:x/2=0
   .have M:x=1:=by omega
    subst M
    have:Lib.bitLenAux f (1/2)=0:=by
     show Lib.bitLenAux f 0=0;cases f<;>simp[Lib.bitLenAux]
    rw[this];omega
   .have:=B c;omega
theorem A31(c:0<n)(A:n<4294967296):∃s:Nat,(32:Int)-(Lib.bitLen n:Int)=s/\s<32/\2147483648<=n*2^s/\(n+1)*2^s<=4294967296:=by
 have Y:=Lm 64 n ZbD;have F:Lib.bitLen n=Lib.bitLenAux 64 n:=rfl;rw[<-F]at Y;generalize Lib.bitLen n=k at Y;obtain⟨B,L⟩:=Y;have L:=L ZbD
 have u:k<=32:=by
  rcases YaG 32 k with h | h
  .have:2^33<=2^k:=Ybk ZbD h
   have e:(2:Nat)^33=8589934592:=by decide
   omega
  .exact h
 have d:1<=k:=by
  rcases Yaz k with h | h
  .subst h;simp at B;omega
  .exact h
 refine⟨32-k,by omega,by omega,?_,?_⟩
 .have S:2^k*2^(32-k)=4294967296:=by rw [<-YcG, show k+(32-k)=32 by omega]
  have C:2^k*2^(32-k)<=2*n*2^(32-k):=YaB _ L;rw[S,YaY]at C;omega
 .have S:2^k*2^(32-k)=4294967296:=by rw [<-YcG, show k+(32-k)=32 by omega]
  have C:(n+1)*2^(32-k)<=2^k*2^(32-k):=YaB _ B;omega
theorem DM{y n:Nat}(h:(As y).length=n+1):0<(As y).getD n 0:=by
 induction n generalizing y with
 |zero=>
  have O:y≠0:=by rintro rfl;rw[BL]at h;simp at h
  rw[Fh O]at h ⊢;have c:(As (y/BB)).length=0:=by simpa using h
  have A:=Bs.1 c
  have B:y<BB:=by
   rcases YaG y BB with h | h
   .exact h
   .have:=YeM h CQ;omega
  simp[YaS B];omega
 |succ n u=>
  have O:y≠0:=by rintro rfl;rw[BL]at h;simp at h
  rw[Fh O]at h ⊢;have:=u (y:=y/BB) Zdi;exact ZjF
theorem Xh{y n s t:Nat}(J:(As y).length=n+1)(M:(As y).getD n 0=t)(X:l.length=n+2)(f:BM l)(r:val l=2^s*y)(A:2147483648<=t*2^s)(B:(t+1)*2^s<=4294967296) :
  val (l.take (n+1))=2^s*y/\2147483648<=l.getD n 0:=by
 have z:=Eh J;rw[AJ,M]at z
 have K:val ((As y).take n)<BB^n:=by
  have:=Eg (Di (BG y) n);exact ZjG
 have I:2^s*y<BB^(n+1):=by
  have L:y+1<=BB^n*(t+1):=Zhp
  have S:2^s*(y+1)<=2^s*(BB^n*(t+1)):=Yas _ L;have C:2^s*(BB^n*(t+1))=BB^n*((t+1)*2^s):=by rw[Ybj,YaM (2^s)]
  have F:BB^n*((t+1)*2^s)<=BB^n*BB:=Yas _ (by rw[BF];exact B);have g:0<2^s:=YcY s;rw[Ybq];rw[YaD]at S;omega
 have Z:=Eh X
 have c:l.getD (n+1) 0=0:=by
  rcases Yaz (l.getD (n+1) 0)with h | h
  .exact h
  .exfalso
   have:BB^(n+1)*1<=BB^(n+1)*l.getD (n+1) 0:=Yas _ h;omega
 rw[c,Ycu,Ybd]at Z;refine⟨by rw[<-Z,r],?_⟩;have E:=Bg l n;rw[<-Z,r]at E;have L:BB^n*t<=y:=by omega
 have S:2^s*(BB^n*t)<=2^s*y:=Yas _ L;have C:2^s*(BB^n*t)=BB^n*(t*2^s):=by rw[Ybj,YaM (2^s)]
 have F:BB^n*2147483648<=BB^n*(t*2^s):=Yas _ A
 have g:val (l.take n)<BB^n:=by
  have:=Eg (Di f n);exact ZjG
 have G:BB^n*2147483648<BB^n*(l.getD n 0+1):=Zhp
 have:=Ybs G;omega
def DivRel(w wr:World)(A G g:Nat)(Y R U Q:List Nat)(m n k:Nat):Prop:=
 U.length=m+1/\BM U/\Blk wr A 335 (wv U)/\Q.length=m-n+1/\BM Q/\Blk wr g 335 (wv Q)/\Blk wr G 335 (wv R) /\
 val (Y.drop k)=val (Q.drop k)*val (R.take n)+val (U.drop k)/\U.take k=Y.take k/\val (U.drop k)<val (R.take n)/\Ext w wr
theorem Iu(U:List Nat)(k j:Nat)(h:k+j<=U.length):val (U.drop k)=val ((U.drop k).take j)+BB^j*val (U.drop (k+j)):=by
 have A:U.drop k=(U.drop k).take j++(U.drop k).drop j:=(Yca j _).symm;rw[Ydi]at A;have B:((U.drop k).take j).length=j:=Zip
 calc val (U.drop k) = val ((U.drop k).take j ++ U.drop (k + j)) := by rw [← A]
  _=_:=by rw[Iv,B]
theorem DivRel.window(h:DivRel w q n b T l f vo vX m c (k+1))(C:k+c<=m)(E:2<=c)(v:c<=f.length)(X:BM f) :
  ∃x post,x.length=c+1/\BM x/\Win q n (vo.take k) x post/\val x<BB*val (f.take c)/\val post=0/\vo=vo.take k++x++post/\val x=vo.getD k 0+BB*val (vo.drop (k+1))/\(vo.take k).length=k:=by
 obtain⟨A,B,L,S,F,G,g,y,Q,W,I⟩:=h
 have H:vo=vo.take k++(vo.drop k).take (c+1)++vo.drop (k+(c+1)):=by
  exact ZjI
 have M:val (f.take c)<BB^c:=by
  have:=Eg (Di X c);rwa [YaO,Ybu v]at this
 have Z:=Ec (l:=vo) (k:=k) ZbD;have s:=Iu vo k (c+1) ZbD;have N:=Bd B k
 have K:val (vo.drop k)<BB*val (f.take c):=by
  have:BB*(val (vo.drop (k+1))+1)<=BB*val (f.take c):=Yas _ W;rw[YaD]at this;omega
 have Y:val (vo.drop (k+(c+1)))=0:=by
  rcases Yaz (val (vo.drop (k+(c+1))))with h | h
  .exact h
  .exfalso
   have o:BB^(c+1)*1<=BB^(c+1)*val (vo.drop (k+(c+1))):=Yas _ h;have J:BB*val (f.take c)<=BB*BB^c:=Yas _ (YbT M);have i:BB^(c+1)=BB*BB^c:=by rw[Ybq,YaM]
   omega
 rw[Y,Ycu,Ybd]at s;refine⟨(vo.drop k).take (c+1),vo.drop (k+(c+1)),by simp;omega,Di (Rj B k) _,?_,by rw[<-s];exact K,Y,H,by rw[<-s];exact Z,by simp;omega⟩;unfold Win;rw[<-H];exact L
theorem HB(h:val f=0):val (l++f)=val l:=by rw[Iv,h,Ycu,Ybd]
theorem DivRel.step{w wr j:World}{c f U Q x a post:List Nat}{m A k q:Nat}(h:DivRel w wr n b T c f U Q m A (k+1))(E:k+A<=m)(z:c.length=m+1)(F:x.length=A+1)(hU:U=U.take k++x++post)(d:(U.take k).length=k)(o:val post=0)(P:val x=U.getD k 0+BB*val (U.drop (k+1)))
  (t:a.length=A+1) (xa:BM a) (W:Win j n (U.take k) a post) (v:Only n wr j) (l:q<BB) (IR:val a+q*val (f.take A)=val x) (G:val a<val (f.take A)) (u:w.heap.size<=n) (H:T≠n) (p:b≠n) (xb:b≠T) (xf:w.heap.size<=T) {e:Int} (I:e=(q:Nat)) :
  DivRel w (j.setCell ⟨T,k,none⟩ (.int .u32 e)) n b T c f (U.take k++a++post) (Q.set k q) m A k:=by
 obtain⟨B,C,L,S,N,R,g,V,X,Y,s⟩:=h;have sU:BM (U.take k):=Di C k;have sp:BM post:=λy O=>C y (by rw[hU];simp[O]);have r:k<U.length:=by omega
 have xc:Blk j T 335 (wv Q):=(v.block T (Blk.lt R) H).trans R;have xg:Blk j b 335 (wv f):=(v.block b (Blk.lt g) p).trans g
 have J:(U.take k++a++post).drop k=a++post:=by
  rw[Yaf,List.drop_append,YaL ZbD,d,Ydo];rfl
 have M:(U.take k++a++post).take k=U.take k:=by
  rw[Yaf,List.take_append,d,Ydo,Yap ZbD];simp
 have xe:c.take k=U.take k:=ZaD
 have xd:c.getD k 0=U.getD k 0:=ZaE
 refine⟨?_,?_,?_,by simpa using S,Do N k l,?_,?_,?_,?_,?_,?_⟩
 .have Z:(U.take k++x++post).length=m+1:=by rw [<-hU];exact B
  simp only[Yaa]at Z ⊢;omega
 .intro y O
  rcases YbP.1 O with O | O
  .rcases YbP.1 O with O | O
   .exact sU y O
   .exact xa y O
  .exact sp y O
 .exact Blk.far W (by exact λe=>H e.symm) _
 .rw [I,<-Jo];exact xc.set k _
 .exact xg.far (by exact xb) _
 .rw [J, HB o, Ec (l:=c) ZbD, Ec (l:=Q.set k q) (by rw [Yct]; omega), Ld, Cp ZbD, V, xd]
  have:BB*(val (Q.drop (k+1))*val (f.take A)+val (U.drop (k+1)))=BB*val (Q.drop (k+1))*val (f.take A)+BB*val (U.drop (k+1)):=by rw[YaD,YaY]
  rw[this,YbC];omega
 .rw [M,xe]
 .rw [J,HB o];exact G
 .refine Ext.set ?_ xf _
  exact⟨v.os.trans s.os,v.tape.trans s.tape,v.output.trans s.output,Yat s.size v.size,λi K=>(v.block i (Yaq K s.size) ZbD).trans (s.block K)⟩
theorem A3a{x y m n s:Nat}(E:(As x).length=m)(O:(As y).length=n+1)(i:n+1<=m)(J:l.length=m+1)(G:val l=2^s*x)(r:val (f.take (n+1))=2^s*y):val (l.drop (m-(n+1)+1))<val (f.take (n+1)):=by
 have A:x<BB^m:=by have:=Eg (BG x);rwa [AJ,E]at this
 have B:BB^n<=y:=by
  have e:=Eh O;rw[AJ]at e;have:=DM O;have L:BB^n*1<=BB^n*(As y).getD n 0:=Yas _ this;omega
 have Z:m-(n+1)+1=m-n:=by omega
 rw[Z,r]
 have L:val l=val (l.take (m-n))+BB^(m-n)*val (l.drop (m-n)):=by
  have:=Iv (l.take (m-n)) (l.drop (m-n));exact ZhE
 have Y:=YcY s;have S:2^s*x<2^s*BB^m:=Ydg A Y
 have C:2^s*BB^m=BB^(m-n)*(2^s*BB^n):=by
  rw[Ybj,<-YcG,show m-n+n=m by omega]
 have F:BB^(m-n)*val (l.drop (m-n))<BB^(m-n)*(2^s*BB^n):=by omega
 have g:=Ybs F;have I:2^s*BB^n<=2^s*y:=Yas _ B;omega
theorem A3b{a b s q r:Nat}(F:0<b)(h:2^s*a=q*(2^s*b)+r)(X:r<2^s*b):a/b=q/\r/2^s=a%b:=by
 have Y:0<2^s:=YcY s
 have A:(2^s*a)/(2^s*b)=q:=by
  rw[h,YaM q,YcN (YcS Y F),YbI X,Ybd]
 have B:(2^s*a)%(2^s*b)=r:=by
  exact ZjJ
 rw[Nat.mul_div_mul_left _ _ Y]at A;rw[Nat.mul_mod_mul_left]at B;refine⟨A,?_⟩;rw[<-B,Ydw _ Y]
def Ln(x y:Nat)(w:World)(e:Ending)(N:World):Prop:=
 ∃(A K:Option Addr) (n c g l:Nat),e=.returned (.tuple #[.slice A n c,.slice K g l])/\Words N (.slice A n c) (As (x/y))/\Words N (.slice K g l) (As (x%y))/\Ext w N
theorem Words.form{v:Value}(h:Words w v l):∃A n c,v=.slice A n c:=by
 obtain⟨A,c,rfl,_⟩:=h;exact⟨A,_,c,rfl⟩
theorem A39(C E:Value)(V B:List Nat)(w:World)(p:Words w C V)(F:Words w E B)(f:V.length<=4398046511104)(Q:val V<val B) :
  Calls prog 319 #[C,E] w (Ln (val V) (val B) w):=by
 have u:=Af p.small;have a:=Af F.small;replace p:=Af p;replace F:=Af F;have T:Fx (val V) (val B)<0:=by unfold Fx;rw[Yan Q];omega
 have q:Hid ((As (val V)).length<=35184372088832):=by
  have A:(Ej V).length<=V.length:=HZ V;rw[Bn u.out]at A;show _<=_;omega
 replace f:=Af f;replace Q:=Af Q;go_enter func319,ntmps319;go_wp2_with fail;refine(Ei _ _ _ p.out).mono ?_;rintro e j ⟨X,rfl,I,L⟩;rw[Bn u.out]at I;replace I:=Af I;replace L:=Af L;go_wp2_with fail;refine(Ei _ _ _ (F.out.ext L.out)).mono ?_;rintro e J ⟨O,rfl,g,P⟩;rw[Bn a.out]at g;replace I:=Af (I.out.ext P);replace P:=Af (L.out.trans P);replace g:=Af g;go_wp2_with fail;refine(Jg _ _ _ _ _ I.out g.out).mono ?_;rintro e M ⟨rfl,G⟩;replace I:=Af (I.out.ext G);replace G:=Af (P.out.trans G);go_wp2_with fail;refine(LV _ _ _ I.out q.out).mono ?_;rintro e S ⟨R,rfl,x,l⟩;obtain⟨m,N,K,rfl⟩:=x.form;replace x:=Af x;replace l:=Af (G.out.trans l);go_wp2;go_ret2;refine⟨_,_,_,_,_,_,rfl,?_,?_,l.out⟩
 .exact ZiI
 .rw [YaS Q.out];exact x.out
theorem A0q(G N:Value)(V C:List Nat)(w:World)(p:Words w G V)(F:Words w N C)(f:V.length<=4398046511104)(S:val C<=val V)(A:(As (val C)).length=1) :
  Calls prog 319 #[G,N] w (Ln (val V) (val C) w):=by
 have u:=Af p.small;have h:=Af F.small;replace p:=Af p;replace F:=Af F;have T:¬Fx (val V) (val C)<0:=by unfold Fx;rw[Yai ZbD];split<;>omega
 have q:Hid ((As (val V)).length<=4398046511104):=by
  have A:(Ej V).length<=V.length:=HZ V;rw[Bn u.out]at A;show _<=_;omega
 obtain⟨t,M⟩:∃t,As (val C)=[t]:=by
  match B:As (val C),A with
  |[t],_=>exact⟨t,rfl⟩
 have U:Hid (val C=t):=by
  show val C=t;rw[<-AJ (val C),M];simp[val]
 have s:t<4294967296:=by
  have:=BG (val C) t (by rw[M];simp);rwa [BF]at this
 have r:0<t:=by
  have:=DM (y:=val C) (n:=0) A;rw[M]at this;exact ZjF
 replace f:=Af f;replace S:=Af S;clear A;replace M:=Af M;go_enter func319,ntmps319;go_wp2_with fail;refine(Ei _ _ _ p.out).mono ?_;rintro e j ⟨c,rfl,I,L⟩;rw[Bn u.out]at I;replace I:=Af I;replace L:=Af L;go_wp2_with fail;refine(Ei _ _ _ (F.out.ext L.out)).mono ?_;rintro e J ⟨v2,rfl,g,P⟩;rw[Bn h.out]at g;replace I:=Af (I.out.ext P);replace P:=Af (L.out.trans P);replace g:=Af g;go_wp2_with fail;refine(Jg _ _ _ _ _ I.out g.out).mono ?_;rintro e W ⟨rfl,O⟩;replace I:=Af (I.out.ext O);replace g:=g.out.ext O;replace O:=Af (P.out.trans O);rw[M.out]at g;obtain⟨b,E,rfl,X,y,Z⟩:=g.open_;obtain⟨K,Y,rfl,R,z⟩:=Z ZbS;replace z:W.cell? ⟨K,Y,none⟩=some (.int .u32 (t:Nat)):=z 0 ZbS;clear Z g;go_wp2_with fail;refine(Qh _ _ t _ I.out q.out r s).mono ?_;rintro e m ⟨v4,rfl,x,l⟩;obtain⟨v,i,Q,rfl⟩:=x.form;replace x:=Af x;replace l:=Af (O.out.trans l);have k:val (As (val V))%t<18446744073709551616:=by have:=YaT (val (As (val V))) r;omega
 replace k:=Af k;clear z;go_wp2_with fail;refine(Oq _ _ k.out).mono ?_;rintro e n ⟨v5,rfl,o,a⟩;obtain⟨H,n5,d,rfl⟩:=o.form;replace x:=Af (x.out.ext a);replace o:=Af o;replace a:=Af (l.out.trans a);go_wp2;go_ret2;refine⟨_,_,_,_,_,_,rfl,?_,?_,a.out⟩
 .have:=x.out;rw[AJ]at this;rw[U.out];exact this
 .have:=o.out;rw[AJ]at this;rw[U.out];exact this
theorem Qc(b E n F T k:Nat)(pre post u v:List Nat)(w:World)(C:pre.length=k)(B:Win w b pre u post)(S:u.length=n+1)(r:n<=v.length)(e:2<=n)(f:n<=4398046511104)(A:BM u)(X:BM v)(G:E≠b)
  (m:Blk w E 335 (wv v)) (o:n+1<=F) (q:n<=T) (R:2147483648<=v.getD (n-1) 0) (Q:val u<BB*val (v.take n)) :
  Calls prog 328 #[.slice (some ⟨b,k,none⟩) (n+1) F,.slice (some ⟨E,0,none⟩) n T] w (A6e w b pre post u (v.take n)):=by
 subst C;refine OE b E 0 n F T pre post u (v.take n) w B S Zip e f A (Di X n) G (λi K=>?_) o q ?_ Q
 .rw [YaH, m.cell, Ea ZbD]
  simp[K]
 .simp only[Yab,YaJ]at R ⊢
  rw[Yan ZbD];exact R
set_option maxRecDepth 1000000 in
theorem A0r(H vb:Value)(R X:List Nat)(w:World)(p:Words w H R)(F:Words w vb X)(f:R.length<=4398046511104)(xh:val X<=val R)(C:2<=(As (val X)).length) :
  Calls prog 319 #[H,vb] w (Ln (val R) (val X) w):=by
 have xm:=Af p.small;have xx:=Af F.small;replace p:=Af p;replace F:=Af F;have xX:¬Fx (val R) (val X)<0:=by unfold Fx;rw[Yai ZbD];split<;>omega
 have S:(As (val R)).length<=4398046511104:=by
  have B:(Ej R).length<=R.length:=HZ R;rw[Bn xm.out]at B;omega
 have z:=BQ xh;obtain⟨n,a⟩:∃n,(As (val X)).length=n+1:=⟨(As (val X)).length-1,by omega⟩;obtain⟨m,xa⟩:∃m,(As (val R)).length=m:=⟨_,rfl⟩;have xK:=DM a;have xL:=Bd (BG (val X)) n;generalize M:(As (val X)).getD n 0=t at *;unfold BB at xL;obtain⟨s,xr,Y,xv,yf⟩:=A31 xK xL;rw[xa]at S z;rw[a]at z C;have xt:1<=n:=by omega
 clear C f;replace M:=Af M;replace a:=Af a;replace xa:=Af xa;replace xh:=Af xh;replace xv:=Af xv;replace yf:=Af yf;replace xr:=Af xr;have xu:=λW=>CA (m-(n+1)+1) ZbD .i64 .i64 W;have xF:((m-(n+1)+1:Nat):Int)=(m:Int)-((n:Int)+1)+1:=by omega
 rw[xF]at xu;clear xF;go_enter func319,ntmps319;go_wp2_with fail;refine(Ei _ _ _ p.out).mono ?_;rintro e j ⟨v1,rfl,o,u⟩;rw[Bn xm.out]at o;replace o:=Af o;replace u:=Af u;go_wp2_with fail;refine(Ei _ _ _ (F.out.ext u.out)).mono ?_;rintro e r ⟨v2,rfl,y,P⟩;rw[Bn xx.out]at y;replace o:=Af (o.out.ext P);replace P:=Af (u.out.trans P);replace y:=Af y;go_wp2_with fail;refine(Jg _ _ _ _ _ o.out y.out).mono ?_;rintro e w3 ⟨rfl,xb⟩;replace o:=o.out.ext xb;replace y:=y.out.ext xb;replace xb:=Af (P.out.trans xb);obtain⟨A1,O,rfl,xk,yu,xp⟩:=o.open_;clear xp;obtain⟨A2,d,rfl,xi,xU,xq⟩:=y.open_;obtain⟨b2,o2,rfl,xe,xy⟩:=xq (by rw[a.out];omega);replace xy:w3.cell? ⟨b2,o2+n,none⟩=some (.int .u32 (t:Nat)):=by have:=xy n (by rw[a.out];omega);exact Ziu
 clear xq;rw[a.out]at xi ⊢;rw[xa.out]at xk ⊢;replace o:=Af o;replace y:=Af y;have yv:(((n+1:Nat):Int)==1)=false:=Zip
 go_wp2_with fail;refine(Go.Proofs.Tryz.bits_LeadingZeros32 _ _ ZbD ZbD).mono ?_;rintro e w3 ⟨rfl,rfl⟩;rw[YdE,xr.out];have yi:Hid (Words w3 (.slice A1 m O) (As (val R))):=by have:=o.out;rw[xa.out]at this;exact this
 have yj:Hid (Words w3 (.slice (some ⟨b2,o2,none⟩) (n+1) d) (As (val X))):=by have:=y.out;rw[a.out]at this;exact this
 clear o y xy;go_wp2_with fail;refine(Ms _ _ s _ yi.out (by rw[xa.out];exact S) Y).mono ?_;rintro e w4 ⟨gu,ul,rfl,xH,xZ,xG,xz,xY,xf⟩;rw[xa.out]at xH ⊢;have y:=Af (yj.out.ext xf);clear yi yj;go_wp2_with fail;refine(Ms _ _ s _ y.out (by rw[a.out];omega) Y).mono ?_;rintro e w5 ⟨gv,vl,rfl,xn,xV,xA,ya,xN,xs⟩;have yk:gv≠gu:=by have:=Blk.lt xz;omega
 rw[a.out]at xn ⊢;clear y;rw[AJ]at xY xN;have T:=Af (Xh a.out M.out xn xV xN xv.out yf.out);replace xz:=xz.ext xs;replace xs:=xb.out.trans (xf.trans xs);replace xH:=Af xH;replace xn:=Af xn;replace xZ:=Af xZ;replace xV:=Af xV;replace xY:=Af xY;replace xN:=Af xN;replace xz:=Af xz;replace ya:=Af ya;replace xs:=Af xs;have yB:=Blk.lt xz.out;have yC:=Blk.lt ya.out;have yd:w.heap.size<=gu:=Yat xb.out.size xG;have yg:=xs.out.size;replace yd:=Af yd;replace yg:=Af yg;clear xf xG xA;go_wp2;go_loopw [13] (λi wr=>∃(k:Nat) (U Q:List Nat),k<=m-(n+1)+1/\i=.int .i64 ((k:Int)-1)/\Hid (DivRel w wr gu gv w5.heap.size ul vl U Q m (n+1) k)) (λi _=>(intOf i+1).toNat)
 case atStart=>
  refine⟨m-(n+1)+1,ul,List.replicate (m-(n+1)+1) 0,Yah _,by congr 1;omega,xH.out,xZ.out,xz.out.alloc _,by simp,Cu _,Blk.new _ _ _,ya.out.alloc _,?_,rfl,?_,xs.out.alloc _⟩
  .exact ZaF
  .exact A3a xa.out a.out z xH.out xY.out T.out.1
 case round=>
  obtain⟨k,U,Q,E,rfl,L⟩:=hrel;by_cases xj:k=0
  .subst xj
   have xM:Hid (Words wr (.slice (some ⟨w5.heap.size,0,none⟩) (m-(n+1)+1) (m-(n+1)+1)) Q):=by
    have:=CI (c:=m-(n+1)+1) L.out.2.2.2.2.2.1 L.out.2.2.2.2.1 (by rw[L.out.2.2.2.1];omega) ZbD;rw[L.out.2.2.2.1]at this;exact this
   have ys:Hid ((U.take (n+1)).length=n+1):=by show _=_;rw[YaO,L.out.1];omega
   have xJ:Hid (Words wr (.slice (some ⟨gu,0,none⟩) (n+1) (m+1)) (U.take (n+1))):=by
    have:=CI (c:=m+1) L.out.2.2.1 L.out.2.1 Zfl ZbD;have:=this.take (k:=n+1) Zfl;exact this
   have xc:Hid (val R/val X=val Q/\val (U.take (n+1))/2^s=val R%val X):=by
    have B:=L.out.2.2.2.2.2.2.2.1;have C:=L.out.2.2.2.2.2.2.2.2.2.1;simp only[YaU]at B C;rw[xY.out,T.out.1]at B;rw[T.out.1]at C
    have xT:0<val X:=by
     rcases Yaz (val X)with h | h
     .have:=a.out;rw[h,BL]at this;simp at this
     .exact h
    have yt:val (U.take (n+1))=val U:=by
     have e:=Iu U 0 (n+1) Zfl;simp only[YaU,YaH]at e
     have yb:2^s*val X<BB^(n+1):=by
      rw[<-T.out.1];have:=Eg (Di xV.out (n+1));rwa [YaO,xn.out,Ybu ZbD]at this
     rcases Yaz (val (U.drop (n+1)))with h | h
     .rw [h,Ycu,Ybd]at e;exact e.symm
     .exfalso
      have:BB^(n+1)*1<=BB^(n+1)*val (U.drop (n+1)):=Yas _ h;omega
    rw[yt];exact A3b xT B C
   go_wp2
   refine wp_region_v ZbI [[], [(81, 0)], [], [], [(83, 2), (84, 3)], [], [(85, 4), (86, 5)]] [[], [0], [], [], [2, 3], [], [0, 1, 2, 3, 4, 5]]
    [λv _=>v=.slice (some ⟨w5.heap.size,0,none⟩) (m-(n+1)+1) (m-(n+1)+1),λv N=>∃A n c,v=.slice A n c/\Words N (.slice A n c) (As (val R/val X)),λv _=>v=.slice (some ⟨gu,0,none⟩) (m+1) (m+1),λv _=>v=.int .i64 ((n:Int)+1),λv _=>v=.slice (some ⟨gu,0,none⟩) (n+1) (m+1),λv _=>v=.int .i64 (s:Int),λv N=>∃A n c,v=.slice A n c/\Words N (.slice A n c) (As (val R%val X))]
    rfl ZbI ZbI ?stab ?steps ?fin
   case stab=>exact .cons (Stab.eq _) (.cons (λ_ _ _ b ⟨A,n,c,B,C⟩=>⟨A,n,c,B,C.ext b⟩) (.cons (Stab.eq _) (.cons (Stab.eq _) (.cons (Stab.eq _) (.cons (Stab.eq _) (.cons (λ_ _ _ b ⟨A,n,c,B,C⟩=>⟨A,n,c,B,C.ext b⟩) .nil))))))
   case steps=>
    refine .cons ?s0 (.cons ?s1 (.cons ?s2 (.cons ?s3 (.cons ?s4 (.cons ?s5 (.cons ?s6 .nil))))))
    case s0=>
     intro N G V E p I K;have xI:G (.tmp 12)=.slice (some ⟨w5.heap.size,0,none⟩) (m-(n+1)+1) (m-(n+1)+1):=p 12 ZbH;exact AD (by simp[execOp,xI,go_sem]) rfl
    case s1=>
     intro N G V E p I K;have yn:G (.tmp 81)=.slice (some ⟨w5.heap.size,0,none⟩) (m-(n+1)+1) (m-(n+1)+1):=E.1 _ rfl;refine CF (by simp[execOp,resolve,invoke,K,yn,go_sem]) (Ei _ _ _ (xM.out.ext ((Ext.refl _).drew.trans V))) ?_;rintro e j ⟨v1,rfl,o,u⟩;obtain⟨A1,n1,O,rfl⟩:=o.form;exact⟨_,rfl,u,_,_,_,rfl,by rw[Bn L.out.2.2.2.2.1,<-xc.out.1]at o;exact o⟩
    case s2=>
     intro N G V E p I K;have xC:G (.tmp 10)=.slice (some ⟨gu,0,none⟩) (m+1) (m+1):=p 10 ZbH;exact AD (by simp[execOp,xC,go_sem]) rfl
    case s3=>
     intro N G V E p I K;have e8:G (.tmp 8)=.int .i64 ((n:Int)+1):=p 8 ZbH;exact AD ZeO rfl
    case s4=>
     intro N G V E p I K;have yo:G (.tmp 83)=.slice (some ⟨gu,0,none⟩) (m+1) (m+1):=E.1 _ rfl;have yp:G (.tmp 84)=.int .i64 ((n:Int)+1):=E.2.1 _ rfl;have yw:(n:Int)+1<=(m:Int)+1:=by omega
     have yx:(0:Int)<=(n:Int)+1:=by omega
     exact AD (by simp[execOp,yo,yp,yw,yx,go_sem]) rfl
    case s5=>
     intro N G V E p I K;have e9:G (.tmp 9)=.int .i64 (s:Int):=p 9 ZbH;exact AD (by simp[execOp,e9,go_sem]) rfl
    case s6=>
     intro N G V E p I K;have yq:G (.tmp 85)=.slice (some ⟨gu,0,none⟩) (n+1) (m+1):=E.1 _ rfl;have yr:G (.tmp 86)=.int .i64 (s:Int):=E.2.1 _ rfl;refine CF (by simp[execOp,resolve,invoke,K,yq,yr,go_sem]) (Rk _ _ s _ (xJ.out.ext ((Ext.refl _).drew.trans V)) (by rw[ys.out];omega) Y) ?_;rintro e j ⟨v1,rfl,o,u⟩;obtain⟨A1,n1,O,rfl⟩:=o.form;exact⟨_,rfl,u,_,_,_,rfl,by rw[xc.out.2]at o;exact o⟩
   case fin=>
    intro g N V hF;obtain⟨yy,ym,yh,Z,xg⟩:=hF 1 _ rfl;obtain⟨yz,yD,yA,J,xE⟩:=hF 6 _ rfl;simp only[Yav,Ybv,Nat.reduceAdd,Ybp,YaU,Ybi,YbX,FA,Act.put,Yba,Yby,YbN,Z,J];clear hF Z J;replace xg:=Af xg;replace xE:=Af xE;replace V:=Af (L.out.2.2.2.2.2.2.2.2.2.2.trans ((Ext.refl _).drew.trans V));go_wp2;go_ret2;exact⟨_,_,_,_,_,_,rfl,xg.out,xE.out,V.out⟩
  .obtain ⟨k, rfl⟩:∃q, k=q+1:=⟨k-1, by omega⟩
   have xg:((k+1:Nat):Int)-1=k:=by omega
   rw[xg];obtain⟨x,post,xp,xq,xO,xP,xQ,xR,xS,xB⟩:=L.out.window ZbD ZbD Zeg xV.out;replace xp:=Af xp;replace xq:=Af xq;replace xO:=Af xO;replace xP:=Af xP;replace xQ:=Af xQ;replace xR:=Af xR;replace xS:=Af xS;replace xB:=Af xB;go_wp2_with fail;rw[show k+(n+1)+1-k=n+1+1 by omega];refine(Qc gu gv (n+1) _ _ k (U.take k) post x vl wr xB.out xO.out xp.out Zeg ZbD ZbD xq.out xV.out yk L.out.2.2.2.2.2.2.1 ZbD ZbD T.out.2 xP.out).mono ?_;rintro e w6 ⟨q,x',rfl,l,xw,xW,yc,hO,IR,ye⟩;rw[xp.out]at xw;have xo:q<4294967296:=by rwa [BF]at l
   have xD:Blk w6 w5.heap.size 335 (wv Q):=(hO.block _ (Blk.lt L.out.2.2.2.2.2.1) ZbD).trans L.out.2.2.2.2.2.1;have yl:w6.cell? ⟨w5.heap.size,k,none⟩=some (.int .u32 (Q.getD k 0:Nat)):=by rw[xD.cell,Ea (by rw[L.out.2.2.2.1];omega)]
   have xd:=xD.frozen k;have xl:=L.out.step ZbD xH.out xp.out xR.out xB.out xQ.out xS.out xw xW yc hO l IR ye yd.out ZbD yk ZbD yg.out (e:=(q:Nat)) rfl;replace xl:=Af xl;clear xw xW yc hO IR ye xD l;go_wp2;exact⟨⟨k,_,_,by omega,rfl,xl⟩,by simp[intOf]⟩
theorem ML(q E:Value)(V C:List Nat)(w:World)(p:Words w q V)(F:Words w E C)(f:V.length<=4398046511104)(c:val C≠0) :
  Calls prog 319 #[q,E] w (Ln (val V) (val C) w):=by
 rcases YaG (val V) (val C)with h | h
 .exact A39 q E V C w p F f h
 .by_cases A:(As (val C)).length=1
  .exact A0q q E V C w p F f h A
  .have B:(As (val C)).length≠0:=λe=>c (Bs.1 e)
   exact A0r q E V C w p F f h ZbD
theorem FE(h:(As n).length<=b):n<BB^b:=by
 have:=Eg (BG n);rw[AJ]at this;exact Yaq this (Ybk CQ h)
theorem JO{x k:Nat}(h:x<BB^k):(As x).length<=k:=by
 induction k generalizing x with
 |zero=>simp at h;subst h;rw[BL];simp
 |succ k u=>
  by_cases E:x=0
  .subst E;rw[BL];simp
  .rw [Fh E]
   simp only[Yav];have:=u (x:=x/BB) (Ybw (by rw[Ybq,YaM]at h;exact h));omega
theorem A2p:BB^2=18446744073709551616:=by decide
theorem DQ{x y k:Nat}(h:x<=y)(O:(As y).length<=k):(As x).length<=k:=Yat (BQ h) O
def A6B(W:World)(G N k:Nat)(X Y:Value)(wr:World):Prop:=
 ∃(x y:Nat) (A K:Option Addr) (n c g l:Nat),X=.slice A n c/\Y=.slice K g l/\Words wr (.slice A n c) (As x)/\Words wr (.slice K g l) (As y)/\Nat.gcd x y=G/\y=k/\(As x).length<=N/\(As y).length<=N/\Ext W wr
def Aax(G:Nat)(m n:Value):Prop:=∃p q:Nat,m=.int .u64 p/\n=.int .u64 q/\p<18446744073709551616/\q<18446744073709551616/\Nat.gcd p q=G
theorem Words.len{n c:Nat}(h:Words w (.slice ux n c) l):n=l.length:=by
 obtain⟨K,A,r,_⟩:=h;injection r
theorem A7B(b S:Bool)(A A':Option Addr)(n c L d:Nat)(x y:Int)(w:World)(h:IsInt w (.bool b) (.slice A n c) x)(a:IsInt w (.bool S) (.slice A' L d) y)(f:(As x.natAbs).length<=4398046511104)(xd:(As y.natAbs).length<=4398046511104) :
  Calls prog 290 #[.agg #[.bool b,.slice A n c],.agg #[.bool S,.slice A' L d]] w (Jy (Nat.gcd x.natAbs y.natAbs) w):=by
 replace h:=Af h;replace a:=Af a;replace f:=Af f;replace xd:=Af xd;go_enter func290,ntmps290;go_wp2
 refine wp_region_v ZbI [[], [(11, 0)], [(12, 1)], [(13, 2)], [], [(15, 4)], [(16, 5)], [(17, 6)]] [[], [0], [0, 1], [0, 1, 2], [], [4], [0, 1, 2, 3, 4, 5], [0, 1, 2, 3, 4, 5, 6]]
  [λv _=>v=.pointer (some ⟨w.heap.size,1,none⟩),λv _=>v=.slice A n c,λv N=>∃A n c,v=.slice A n c/\Words N (.slice A n c) (As x.natAbs),λv N=>∃A n c,v=.slice A n c/\Words N (.slice A n c) (As x.natAbs),λv _=>v=.pointer (some ⟨w.heap.size+1,1,none⟩),λv _=>v=.slice A' L d,λv N=>∃A n c,v=.slice A n c/\Words N (.slice A n c) (As y.natAbs),λv N=>∃A n c,v=.slice A n c/\Words N (.slice A n c) (As y.natAbs)]
  rfl ZbI ZbI ?stab ?steps ?fin
 case stab=>exact .cons (Stab.eq _) (.cons (Stab.eq _) (.cons (λ_ _ _ J ⟨A,n,c,B,C⟩=>⟨A,n,c,B,C.ext J⟩) (.cons (λ_ _ _ J ⟨A,n,c,B,C⟩=>⟨A,n,c,B,C.ext J⟩) (.cons (Stab.eq _) (.cons (Stab.eq _) (.cons (λ_ _ _ J ⟨A,n,c,B,C⟩=>⟨A,n,c,B,C.ext J⟩) (.cons (λ_ _ _ J ⟨A,n,c,B,C⟩=>⟨A,n,c,B,C.ext J⟩) .nil)))))))
 case steps=>
  refine .cons ?s0 (.cons ?s1 (.cons ?s2 (.cons ?s3 (.cons ?s4 (.cons ?s5 (.cons ?s6 (.cons ?s7 .nil)))))))
  case s0=>
   intro N i V E O I t;have s:i (.tmp 2)=.pointer (some ⟨w.heap.size,0,none⟩):=O 2 ZbH;exact AD ZdK rfl
  case s1=>
   intro N i V E O I t;have xv:i (.tmp 11)=.pointer (some ⟨w.heap.size,1,none⟩):=E.1 _ rfl;have Z:N.cell? ⟨w.heap.size,1,none⟩=some (.slice A n c):=V.cellv (((((Blk.new _ _ _).alloc _).alloc _).drew.cell 1));exact AD (by simp[execOp,xv,Z,go_sem]) rfl
  case s2=>
   intro N i V E O I t;have xw:i (.tmp 12)=.slice A n c:=E.1 _ rfl;refine CF (by simp[execOp,resolve,invoke,t,xw,go_sem]) (Ei _ _ _ (h.out.2.ext (((((Ext.refl _).alloc _).alloc _).alloc _).drew.trans V))) ?_;rintro e j ⟨v1,rfl,T,xa⟩;exact Zhq
  case s3=>
   intro N i V E O I t;have xN:=E.1 _ rfl;obtain⟨A3,n3,c3,xz,xL⟩:=xN;refine CF (by simp[execOp,resolve,invoke,t,xz,go_sem]) (LV _ _ _ xL (by have:=f.out;omega)) ?_;rintro e j ⟨v1,rfl,T,xa⟩;exact ZhM
  case s4=>
   intro N i V E O I t;have H:i (.tmp 3)=.pointer (some ⟨w.heap.size+1,0,none⟩):=O 3 ZbH;exact AD ZdA rfl
  case s5=>
   intro N i V E O I t;have xG:i (.tmp 15)=.pointer (some ⟨w.heap.size+1,1,none⟩):=E.1 _ rfl;have Z:N.cell? ⟨w.heap.size+1,1,none⟩=some (.slice A' L d):=V.cellv ((((ES _ _ ZbS).alloc _).drew.cell 1));exact AD (by simp[execOp,xG,Z,go_sem]) rfl
  case s6=>
   intro N i V E O I t;have xJ:i (.tmp 16)=.slice A' L d:=E.1 _ rfl;refine CF (by simp[execOp,resolve,invoke,t,xJ,go_sem]) (Ei _ _ _ (a.out.2.ext (((((Ext.refl _).alloc _).alloc _).alloc _).drew.trans V))) ?_;rintro e j ⟨v1,rfl,T,xa⟩;exact Zhq
  case s7=>
   intro N i V E O I t;have xO:=E.1 _ rfl;obtain⟨A3,n3,c3,xK,xL⟩:=xO;refine CF (by simp[execOp,resolve,invoke,t,xK,go_sem]) (LV _ _ _ xL (by have:=xd.out;omega)) ?_;rintro e j ⟨v1,rfl,T,xa⟩;exact ZhM
 case fin=>
  intro g N V hF;obtain⟨AX,nX,cX,H,hX⟩:=hF 3 _ rfl;obtain⟨AY,nY,cY,e7,hY⟩:=hF 7 _ rfl;simp only[Yav,Ybv,Nat.reduceAdd,Ybp,YaU,Ybi,YbX,FA,Act.put,Yba,Yby,YbN,H,e7];clear hF H e7;replace hX:=Af hX;replace hY:=Af hY;replace V:=Af V;generalize hG:Nat.gcd x.natAbs y.natAbs=G at *;replace hG:=Af hG;go_wp2;go_loopg [5,6] (y.natAbs) (λk X Y wr=>A6B (((w.alloc (Obj.cells #[Value.bool b,Value.slice A n c] 109)).alloc (Obj.cells #[Value.bool S,Value.slice A' L d] 109)).alloc (Obj.cells #[Value.bool false,Value.slice none 0 0] 109)).drew G 4398046511104 k X Y wr)
  case atStart=>exact⟨_,_,_,_,_,_,_,_,rfl,rfl,hX.out,hY.out,hG.out,rfl,f.out,xd.out,V.out⟩
  case round=>
   obtain⟨p,q,A1,A2,n1,W,n2,r,rfl,rfl,T,xc,xq,rfl,z,u,xm⟩:=hrel;clear hX hY V;have xx:=T.len;have xu:=xc.len;by_cases xt:q=0
   .subst xt
    obtain rfl:n2=0:=by rw[xu,BL];rfl
    have F:Hid (p=G):=by show p=G;rw[<-xq];simp
    replace T:=Af T;replace xm:=Af xm;clear xx xu xq xc z u;go_wp2_with fail;refine(EB _ _ _ _ T.out).mono ?_;rintro e U ⟨b2,A2,n2,k2,rfl,xi,m⟩;rw[AJ,F.out]at xi;replace m:=Af (xm.out.trans m);replace xi:=Af xi;obtain⟨xb,xg⟩:=m.out.cells;go_wp2;refine bodyPost_ret (v:=.agg #[.bool b2,.slice A2 n2 k2]) Zfb rfl ⟨_,_,_,_,rfl,?_,?_⟩
    .have M:Ty U (w.heap.size+2) 109:=(Fu _ _ ZbS).drew.ext m.out
     exact(xi.out.set M ZbH _).set (M.set _ _) ZbH _
    .exact (((((Ext.refl _).alloc _).alloc _).alloc _).drew.trans m.out |>.set ZcE _).set ZcE _
   .have xo:0<n2:=by
     rcases Yaz n2 with K | K
     .exact absurd (Bs.1 (xu.symm.trans K)) xt
     .exact K
    by_cases xF:n1<=2/\n2<=2
    .obtain ⟨xn,xr⟩:=xF
     have xE:p<18446744073709551616:=by rw[<-A2p];exact FE ZbD
     have xk:q<18446744073709551616:=by rw[<-A2p];exact FE ZbD
     have xB:(As p).length<=2:=by omega
     have xC:(As q).length<=2:=by omega
     replace T:=Af T;replace xc:=Af xc;replace xm:=Af xm;replace xq:=Af xq;replace xB:=Af xB;replace xC:=Af xC;replace xE:=Af xE;replace xk:=Af xk;clear xx xu z u;have d1:decide ((n1:Int)<=2)=true:=by simp;omega
     have d2:decide ((n2:Int)<=2)=true:=by simp;omega
     go_wp2_with fail;refine(Tz _ _ _ T.out xB.out).mono ?_;rintro e j ⟨rfl,xa⟩;replace xc:=Af (xc.out.ext xa);replace xa:=Af (xm.out.trans xa);go_wp2_with fail;refine(Tz _ _ _ xc.out xC.out).mono ?_;rintro e U ⟨rfl,m⟩;replace m:=Af (xa.out.trans m);rw[AJ,AJ];go_wp2;go_loopw [7,8] (λmm nn wr=>Aax G mm nn/\Hid (Ext (((w.alloc (Obj.cells #[Value.bool b,Value.slice A n c] 109)).alloc (Obj.cells #[Value.bool S,Value.slice A' L d] 109)).alloc (Obj.cells #[Value.bool false,Value.slice none 0 0] 109)).drew wr)) (λ_ nn _=>(intOf nn).toNat)
     case atStart=>exact⟨⟨p,q,rfl,rfl,xE.out,xk.out,xq.out⟩,m.out⟩
     case round=>
      obtain⟨⟨p,q,rfl,rfl,F,l,P⟩,xp⟩:=hrel;clear xq xE xk m xa xm T xc xB xC;replace P:=Af P;by_cases o:q=0
      .subst o
       have xP:Hid (p=G):=by show p=G;rw[<-P.out];simp
       replace F:=Af F;go_wp2_with fail;refine(Oq _ _ F.out).mono ?_;rintro e w3 ⟨v3,rfl,xs,xe⟩;replace xe:=Af (xp.out.trans xe);replace xs:=Af xs;go_wp2_with fail;refine(EB _ _ _ _ xs.out).mono ?_;rintro e U ⟨b2,A2,n2,k2,rfl,xi,m⟩;rw[AJ,xP.out]at xi;replace m:=Af (xe.out.trans m);replace xi:=Af xi;obtain⟨xb,xg⟩:=m.out.cells;go_wp2;refine bodyPost_ret (v:=.agg #[.bool b2,.slice A2 n2 k2]) Zfb rfl ⟨_,_,_,_,rfl,?_,?_⟩
       .have M:Ty U (w.heap.size+2) 109:=(Fu _ _ ZbS).drew.ext m.out
        exact(xi.out.set M ZbH _).set (M.set _ _) ZbH _
       .exact (((((Ext.refl _).alloc _).alloc _).alloc _).drew.trans m.out |>.set ZcE _).set ZcE _
      .have xh:(1:Int)<=q:=by omega
       have R:Hid ((p:Int)%q=((p%q:Nat):Int)):=(Ydl _ _).symm;replace F:=Af F;have xM:=Af l;clear l;go_wp2;go_quiet (fail);go_wp2;rw[R.out];refine⟨⟨⟨q,p%q,rfl,rfl,xM.out,?_,?_⟩,xp.out.drewN _⟩,?_⟩
       .have:=YaT p (show 0<q by omega)
        have:=xM.out;omega
       .have:=P.out
        rw[<-this,YcK p q,YeL q p,YcK]
       .have:=YaT p (show 0<q by omega)
        simp only[intOf];omega
    .have xD:(As p).length<=4398046511104:=z
     have xI:Hid (Nat.gcd q (p%q)=G):=by
      show _=G;rw[<-xq,YcK p q,YeL q p,YcK]
     have xA:Hid ((As (p%q)).length<=4398046511104):=DQ (YbT (YaT p (Ybz xt))) u;have xH:Hid (val (As q)≠0):=by show _≠0;rw[AJ];exact xt
     have Q:Hid (p%q<q):=YaT p (Ybz xt);replace T:=Af T;replace xc:=Af xc;replace xm:=Af xm;replace xD:=Af xD;replace u:=Af u;clear xx xu xq z xt;have xy:Hid (¬(n1<=2/\n2<=2)):=xF;clear xF;by_cases d1:n1<=2
     .have xl:decide ((n1:Int)<=2)=true:=by simp; omega
      have xj:decide ((n2:Int)<=2)=false:=by have:=xy.out;simp;omega
      clear xy;go_wp2_with fail;refine(ML _ _ _ _ _ T.out xc.out xD.out xH.out).mono ?_;rintro e U ⟨A3,A4,n3,c3,n4,c4,rfl,xs,xf,m⟩;rw[AJ,AJ]at xf;replace xc:=Af (xc.out.ext m);replace m:=Af (xm.out.trans m);replace xf:=Af xf;clear xs;go_wp2;go_roundg (p%q)
      case measure=>exact Q.out
      case rel=>exact⟨_,_,_,_,_,_,_,_,rfl,rfl,xc.out,xf.out,xI.out,rfl,u.out,xA.out,m.out⟩
     .have xl:decide ((n1:Int)<=2)=false:=by simp; omega
      clear xy;go_wp2_with fail;refine(ML _ _ _ _ _ T.out xc.out xD.out xH.out).mono ?_;rintro e U ⟨A3,A4,n3,c3,n4,c4,rfl,xs,xf,m⟩;rw[AJ,AJ]at xf;replace xc:=Af (xc.out.ext m);replace m:=Af (xm.out.trans m);replace xf:=Af xf;clear xs;go_wp2;go_roundg (p%q)
      case measure=>exact Q.out
      case rel=>exact⟨_,_,_,_,_,_,_,_,rfl,rfl,xc.out,xf.out,xI.out,rfl,u.out,xA.out,m.out⟩
def A65(q r:Int)(w:World)(e:Ending)(N:World):Prop:=
 ∃(b y:Bool) (A K:Option Addr) (n c g l:Nat),e=.returned (.tuple #[.agg #[.bool b,.slice A n c],.agg #[.bool y,.slice K g l],.int .i64 0])/\IsInt N (.bool b) (.slice A n c) q/\IsInt N (.bool y) (.slice K g l) r/\Ext w N
theorem Ye{x y q r:Int}(O:y≠0)(h:r+y*q=x)(c:0<=r)(A:r<y.natAbs):x/y=q/\x%y=r:=by
 rcases Int.lt_or_gt_of_ne O with P | hpos
 .have:=(Int.ediv_emod_unique' (a:=x) (b:=y) (r:=r) (q:=q) P).2 ⟨h, c, by omega⟩
  exact this
 .have:=(Int.ediv_emod_unique (a:=x) (b:=y) (r:=r) (q:=q) hpos).2 ⟨h, c, by omega⟩
  exact this
theorem Yk{x y:Int}(hy:y≠0)(h:¬x<0\/x.natAbs%y.natAbs=0):x/y=Ka (!(decide (x<0)==decide (y<0))) (x.natAbs/y.natAbs)/\x%y=Ka false (x.natAbs%y.natAbs):=by
  have hyp:0<y.natAbs:=by omega
  have e:=YcV x.natAbs y.natAbs
  have hlt:=YaT x.natAbs hyp
  generalize x.natAbs/y.natAbs=q at *
  generalize x.natAbs%y.natAbs=r at *
  have e':(y.natAbs:Int)*q+r=x.natAbs:=by exact_mod_cast e
  refine Ye hy ?_ (by simp [Ka]) (by simp [Ka];omega)
  have hsx:=Nj (z:=x)
  have hsy:=Nj (z:=y)
  by_cases hx:x<0
  . have hr : r = 0 := by rcases h with h | h
                          . exact absurd hx h
                          . exact h
    subst hr
    by_cases hy2:y<0
    . have ex:(x.natAbs:Int) = -x:=by omega
      have ey:(y.natAbs:Int) = -y:=by omega
      rw [ex,ey] at e'
      simp [Ka,hx,hy2]
      rw [Int.neg_mul] at e'
      omega
    . have ex:(x.natAbs:Int) = -x:=by omega
      have ey:(y.natAbs:Int)=y:=by omega
      rw [ex,ey] at e'
      simp [Ka,hx,hy2]
      rw [YeK]
      omega
  . by_cases hy2:y<0
    . have ex:(x.natAbs:Int)=x:=by omega
      have ey:(y.natAbs:Int) = -y:=by omega
      rw [ex,ey] at e'
      simp [Ka,hx,hy2]
      rw [YeK]
      rw [Int.neg_mul] at e'
      omega
    . have ex:(x.natAbs:Int)=x:=by omega
      have ey:(y.natAbs:Int)=y:=by omega
      rw [ex,ey] at e'
      simp [Ka,hx,hy2]
      omega
theorem VM(b E:Bool)(A Q:Option Addr)(n c g G:Nat)(x y:Int)(w:World)(h:IsInt w (.bool b) (.slice A n c) x)(F:IsInt w (.bool E) (.slice Q g G) y)(f:(As x.natAbs).length<=4398046511104)(W:(As y.natAbs).length<=4398046511104)(O:y≠0)(I:¬x<0\/x.natAbs%y.natAbs=0) :
  Calls prog 291 #[.agg #[.bool b,.slice A n c],.agg #[.bool E,.slice Q g G]] w (A65 (x/y) (x%y) w):=by
 have C:=Af h.bool_eq;have V:=Af F.bool_eq;have l:=Af (Yk O I);have xa:Hid (y.natAbs≠0):=by show _≠0;omega
 replace h:=Af h;replace F:=Af F;replace f:=Af f;replace W:=Af W;replace I:=Af I;go_enter func291,ntmps291;go_wp2_with fail;refine(Ei _ _ _ (F.out.2.ext (((((Ext.refl _).alloc _).alloc _).alloc _).alloc _))).mono ?_;rintro e j ⟨o,rfl,K,R⟩;rw[Bn (BG _),AJ]at K;obtain⟨m,t,L,rfl⟩:=K.form;have J:t≠0:=by rw[K.len];exact λe=>xa.out (Bs.1 e)
 have xc:((t:Int)==0)=false:=by simpa using J
 clear J K;obtain⟨S,d⟩:=R.cells;replace R:=Af R;go_wp2_with fail;refine(ML _ _ _ _ _ (h.out.2.ext ((((((Ext.refl _).alloc _).alloc _).alloc _).alloc _).trans R.out)) (F.out.2.ext ((((((Ext.refl _).alloc _).alloc _).alloc _).alloc _).trans R.out)) f.out (by rw[AJ];exact xa.out)).mono ?_;rintro e N ⟨A3,A4,z,Z,u,a,rfl,p,Y,P⟩;rw[AJ,AJ]at p Y
 have xb:Hid (b=false\/u=0):=by
  rcases I.out with I | I
  .left;rw[C.out];simpa using I
  .rw [I]at Y
   exact .inr (by rw[Y.len,BL];rfl)
 replace P:=Af (R.out.trans P);clear S d;obtain⟨S,d⟩:=P.out.cells;replace p:=Af p;replace Y:=Af Y;clear xc
 cases b with
 |false=>
  clear xb;go_wp2_with fail;refine(EB _ _ _ _ p.out).mono ?_;rintro e k ⟨b5,A5,n5,q,rfl,s,X⟩;rw[AJ,show E = !(decide (x<0)==decide (y<0))by rw[<-C.out,<-V.out];cases E<;>rfl,<-l.out.1]at s;replace Y:=Af (Y.out.ext X);replace s:=Af s;replace X:=Af (P.out.trans X);clear S d;obtain⟨S,d⟩:=X.out.cells;go_wp2_with fail;refine(EB _ _ _ _ Y.out).mono ?_;rintro e r ⟨H,A6,n6,T,rfl,U,i⟩;rw[AJ,<-l.out.2]at U;replace s:=Af (s.out.ext i);replace U:=Af U;replace i:=Af (X.out.trans i);clear S d;obtain⟨S,d⟩:=i.out.cells;go_wp2;refine bodyPost_ret (v:=.tuple #[.agg #[.bool b5,.slice A5 n5 q],.agg #[.bool H,.slice A6 n6 T],.int .i64 0]) Zfg rfl ⟨_,_,_,_,_,_,_,_,rfl,?_,?_,?_⟩
  .exact ZaG
  .exact ZaH
  .exact ZjK
 |true=>
  obtain rfl:u=0:=by
   rcases xb.out with B | B
   .cases B
   .exact B
  clear xb;go_wp2_with fail;refine(EB _ _ _ _ p.out).mono ?_;rintro e k ⟨b5,A5,n5,q,rfl,s,X⟩;rw[AJ,show(!E) = !(decide (x<0)==decide (y<0))by rw[<-C.out,<-V.out];cases E<;>rfl,<-l.out.1]at s;replace Y:=Af (Y.out.ext X);replace s:=Af s;replace X:=Af (P.out.trans X);clear S d;obtain⟨S,d⟩:=X.out.cells;go_wp2_with fail;refine(EB _ _ _ _ Y.out).mono ?_;rintro e r ⟨H,A6,n6,T,rfl,U,i⟩;rw[AJ,<-l.out.2]at U;replace s:=Af (s.out.ext i);replace U:=Af U;replace i:=Af (X.out.trans i);clear S d;obtain⟨S,d⟩:=i.out.cells;go_wp2;refine bodyPost_ret (v:=.tuple #[.agg #[.bool b5,.slice A5 n5 q],.agg #[.bool H,.slice A6 n6 T],.int .i64 0]) Zfg rfl ⟨_,_,_,_,_,_,_,_,rfl,?_,?_,?_⟩
  .exact ZaG
  .exact ZaH
  .exact ZjK
theorem IsInt.one{A:Bool}(h:IsInt w (.bool A) (.slice ux n b) a)(B:a=1):A=false/\n=1/\∃g o,ux=some ⟨g,o,none⟩/\w.cell? ⟨g,o,none⟩=some (.int .u32 1):=by
 subst B
 have e:As (1:Int).natAbs=[1]:=by
  show As 1=[1];rw[Fh ZbD];have:(1:Nat)%BB=1:=YaS TX;have C:(1:Nat)/BB=0:=YbI TX;rw[this,C,BL]
 have C:=h.2;rw[e]at C;obtain⟨K,l,r,_,_,E⟩:=C.open_;injection r with Z s H
 subst Z;subst H;obtain⟨g,o,F,_,I⟩:=E ZbS;exact⟨h.bool_eq,s,g,o,F,I 0 ZbS⟩
theorem A32(b:Bool)(A:Option Addr)(n c:Nat)(z:Int)(w:World)(h:IsInt w (.bool b) (.slice A n c) z) :
  Calls prog 285 #[.agg #[.bool b,.slice A n c]] w λe N=>e=.returned (.bool (decide (z=1)))/\Ext w N:=by
 cases b with
 |true=>
  have G:Hid (decide (z=1)=false):=by
   have:=h.bool_eq;show _=false;simp at this ⊢;omega
  clear h;go_enter func285,ntmps285;go_wp2;go_ret;exact⟨by rw[G.out];rfl,(Ext.refl _).alloc _⟩
 |false=>
  by_cases f:n=1
  .subst f
   have C:=h.2;have J:=C.len
   obtain⟨t,M⟩:∃t,As z.natAbs=[t]:=by
    match F:As z.natAbs,J with
    |[t],_=>exact⟨t,rfl⟩
   rw[M]at C;obtain⟨O,l,r,I,x,E⟩:=C.open_;injection r with Z s H
   subst Z;subst H;obtain⟨g,o,rfl,P,Q⟩:=E ZbS;replace Q:w.cell? ⟨g,o,none⟩=some (.int .u32 (t:Nat)):=Q 0 ZbS
   have R:Hid (z=(t:Nat)):=by
    have L:z.natAbs=t:=by rw[<-AJ z.natAbs,M];simp[val]
    have S:=h.bool_eq;simp at S;show z=t;omega
   have K:w.heap.size≠g:=by omega
   clear E C h J s;replace M:=Af M;by_cases B:t=1
   .subst B
    go_enter func285,ntmps285;go_wp2;go_ret;exact⟨by rw[R.out];rfl,(Ext.refl _).alloc _⟩
   .have T:((t:Int)==1)=false:=Zip
    go_enter func285,ntmps285;go_wp2;go_ret;refine⟨?_,(Ext.refl _).alloc _⟩;have:decide (z=1)=false:=by rw[R.out];exact Zip
    rw[this];rfl
  .have G:Hid (decide (z=1)=false):=by
    show _=false;simp only[Ydx];intro e;exact f (h.one e).2.1
   have T:((n:Int)==1)=false:=by simp;omega
   clear h;go_enter func285,ntmps285;go_wp2;go_ret;exact⟨by rw[G.out];rfl,(Ext.refl _).alloc _⟩
theorem FQ{x y:Int}{N M:Nat}(E:(As x.natAbs).length<=N)(O:(As y.natAbs).length<=M):(As (x*y).natAbs).length<=N+M:=by
 have A:=FE E;have B:=FE O
 have L:(x*y).natAbs<BB^(N+M):=by
  rw[Ycp,YcG];rcases Yaz y.natAbs with c | c
  .rw [c,Ycu];exact YcS (Yef CQ) (Yef CQ)
  .exact Nat.mul_lt_mul_of_lt_of_le A (YbT B) (Yef CQ)
 exact JO L
theorem DL{x y:Int}(O:0<y):(Rat.divInt x y).num=x/(Nat.gcd x.natAbs y.natAbs:Int)/\((Rat.divInt x y).den:Int)=y/(Nat.gcd x.natAbs y.natAbs:Int):=by
 obtain⟨d,rfl⟩:=YbH (Int.le_of_lt O);have e:d≠0:=by omega
 have:Rat.divInt x (d:Int)=mkRat x d:=rfl;rw[this,<-YdD e,Rat.normalize_eq e];exact⟨rfl,by simp[Ydk]⟩
theorem Uc(a b:Rat):(a*b).num=(Rat.divInt a.num b.den).num*(Rat.divInt b.num a.den).num/\(a*b).den=(Rat.divInt a.num b.den).den*(Rat.divInt b.num a.den).den:=by
 have A:=DL (x:=a.num) (y:=b.den) (by have:=b.den_nz;omega);have B:=DL (x:=b.num) (y:=a.den) (by have:=a.den_nz;omega);have e:a*b=Rat.mul a b:=rfl;rw[e];unfold Rat.mul
 dsimp only
 rw[Int.divExact_eq_ediv,Int.divExact_eq_ediv,Nat.divExact_eq_div,Nat.divExact_eq_div];refine⟨by rw[A.1,B.1];rfl,?_⟩
 have Z:(Rat.divInt a.num b.den).den=b.den/Nat.gcd a.num.natAbs b.den:=by
  have:=A.2;simp at this;exact_mod_cast this
 have s:(Rat.divInt b.num a.den).den=a.den/Nat.gcd b.num.natAbs a.den:=by
  have:=B.2;simp at this;exact_mod_cast this
 rw[Z,s,YaM]
theorem Uv(a b:Rat):a+b=Rat.divInt (a.num*b.den+b.num*a.den) ((a.den:Int)*b.den):=by
 rw[Rat.add_def,YdD];have:((a.den:Int)*b.den)=((a.den*b.den:Nat):Int):=by simp
 rw[this];rfl
theorem Tl(a:Rat)(h:0<a.num):a⁻¹.num=a.den/\(a⁻¹.den:Int)=a.num:=by
 rw[Rat.inv_def];have A:=DL (x:=a.den) (y:=a.num) h;have B:Nat.gcd ((a.den:Int).natAbs) a.num.natAbs=1:=by simpa[YcK]using a.reduced.symm
 rw[B]at A;simpa using A
theorem Tn(a:Rat)(h:a.num<0):a⁻¹.num=-(a.den:Int)/\(a⁻¹.den:Int)=-a.num:=by
 rw[Rat.inv_def,<-Rat.neg_divInt_neg];have A:=DL (x:=-(a.den:Int)) (y:=-a.num) ZbD;have B:Nat.gcd ((-(a.den:Int)).natAbs) (-a.num).natAbs=1:=by simpa[YcK]using a.reduced.symm
 rw[B]at A;simpa using A
theorem A0s(x:Int):(Rat.divInt x 1).num=x/\((Rat.divInt x 1).den:Int)=1:=by
 have A:=DL (x:=x) (y:=1) ZbD;simpa using A
theorem Sm{x y:Int}(O:0<y)(h:Nat.gcd x.natAbs y.natAbs=1):(Rat.divInt x y).num=x/\((Rat.divInt x y).den:Int)=y:=by
 have A:=DL (x:=x) O;rw[h]at A;simpa using A
def IsRat(w:World)(W L E Z:Value)(q:Rat):Prop:=IsInt w W L q.num/\IsInt w E Z (q.den:Int)
theorem IsRat.ext{w N:World}{W L E Z:Value}{q:Rat}(h:IsRat w W L E Z q)(b:Ext w N):IsRat N W L E Z q:=⟨h.1.ext b,h.2.ext b⟩
def put4(w:World)(b:Nat)(A Y R l:Value):World:=(((w.setCell ⟨b,0,none⟩ A).setCell ⟨b,1,none⟩ Y).setCell ⟨b,2,none⟩ R).setCell ⟨b,3,none⟩ l
theorem IsInt.put4(h:IsInt w z u a){b:Nat}(M:Ty w b t)(C:t≠335)(A Y R l:Value):IsInt (put4 w b A Y R l) z u a:=
 ((((h.set (p:=⟨b,0,none⟩) M C _).set (p:=⟨b,1,none⟩) (M.set _ _) C _).set (p:=⟨b,2,none⟩) ((M.set _ _).set _ _) C _).set (p:=⟨b,3,none⟩) (((M.set _ _).set _ _).set _ _) C _)
theorem IsRat.put4{W L E Z:Value}(h:IsRat w W L E Z vA){b:Nat}(M:Ty w b t)(C:t≠335)(A Y R l:Value):IsRat (put4 w b A Y R l) W L E Z vA:=⟨h.1.put4 M C A Y R l,h.2.put4 M C A Y R l⟩
theorem Ext.put4(h:Ext w q){b:Nat}(F:w.heap.size<=b)(A Y R l:Value):Ext w (put4 q b A Y R l):=(((h.set (p:=⟨b,0,none⟩) F _).set (p:=⟨b,1,none⟩) F _).set (p:=⟨b,2,none⟩) F _).set (p:=⟨b,3,none⟩) F _
def Aaj(q:Rat)(w:World)(e:Ending)(N:World):Prop:=
 ∃(b y:Bool) (A K:Option Addr) (n c g l:Nat),e=.returned (.agg #[.bool b,.slice A n c,.bool y,.slice K g l])/\IsRat N (.bool b) (.slice A n c) (.bool y) (.slice K g l) q/\Ext w N
def RSz(q:Rat)(N:Nat):Prop:=(As q.num.natAbs).length<=N/\(As q.den).length<=N
theorem RSz.mono{q:Rat}(h:RSz q n)(x:n<=b):RSz q b:=⟨Yat h.1 x,Yat h.2 x⟩
theorem KS(x:Int)(g:Nat)(P:(g:Int)∣x):(x/(g:Int)).natAbs<=x.natAbs:=by
 obtain⟨k,rfl⟩:=P;rcases Yaz g with h | h
 .subst h;simp
 .rw [Int.mul_ediv_cancel_left _ ZbD, Ycp]
  exact Nat.le_mul_of_pos_left _ Zdi
theorem LT{x y:Int}(O:0<y):(Rat.divInt x y).num.natAbs<=x.natAbs/\(Rat.divInt x y).den<=y.natAbs:=by
 have h:=DL (x:=x) O;have A:((Nat.gcd x.natAbs y.natAbs:Nat):Int)∣x:=YcU.2 (YcB _ _);have B:((Nat.gcd x.natAbs y.natAbs:Nat):Int)∣y:=YcU.2 (YbJ _ _);refine⟨by rw[h.1];exact KS _ _ A,?_⟩;have:=KS _ _ B;rw[<-h.2]at this;exact ZjF
theorem RSz.divInt{x y:Int}{N:Nat}(O:0<y)(E:(As x.natAbs).length<=N)(T:(As y.natAbs).length<=N):RSz (Rat.divInt x y) N:=
 ⟨DQ (LT O).1 E,DQ (LT O).2 T⟩
theorem den_pos(q:Rat):(0:Int)<q.den:=by have:=q.den_nz;omega
theorem RSz.mul{N M:Nat}(hp:RSz vA N)(A:RSz uT M):RSz (vA*uT) (N+M):=by
 have h:=Uc vA uT;have l:=LT (x:=vA.num) (den_pos uT);have r:=LT (x:=uT.num) (den_pos vA);simp only[YaR]at l r;constructor
 .rw [h.1]
  exact FQ (DQ l.1 hp.1) (DQ r.1 A.1)
 .rw [h.2]
  have:=FQ (x:=((Rat.divInt vA.num uT.den).den:Int)) (y:=((Rat.divInt uT.num vA.den).den:Int)) (N:=M) (M:=N) (by simpa using DQ l.2 A.2) (by simpa using DQ r.2 hp.2);rw[Ycp]at this;simpa[YcX]using this
theorem A20(E:(As a.natAbs).length<=n)(O:(As j.natAbs).length<=n):(As (a+j).natAbs).length<=n+1:=by
 have A:=FE E;have B:=FE O;refine JO ?_;have L:=Int.natAbs_add_le a j;have S:2*BB^n<=BB^n*BB:=by rw[YaM];exact Yas _ ZbH
 rw[Ybq];omega
theorem Fq(q:Rat)(h:RSz q n):(As (q.den:Int).natAbs).length<=n:=by simpa using h.2
theorem RSz.add{p q:Rat}{N M:Nat}(hp:RSz p N)(l:RSz q M):RSz (p+q) (N+M+1):=by
 rw[Uv];refine RSz.divInt (YeN (den_pos p) (den_pos q)) ?_ ?_
 .refine A20 (FQ hp.1 (Fq q l)) ?_
  have:=FQ l.1 (Fq p hp);rwa [YcX]at this
 .exact Yat (FQ (Fq p hp) (Fq q l)) ZbD
theorem A86(h:RSz vA n)(c:vA.num≠0):RSz vA⁻¹ n:=by
 rcases Int.lt_or_gt_of_ne c with f | hp
 .obtain ⟨Z,s⟩:=Tn vA f
  have H:vA⁻¹.den=vA.num.natAbs:=by omega
  exact⟨by rw[Z,Yep];exact Fq vA h,by rw[H];exact h.1⟩
 .obtain ⟨Z,s⟩:=Tl vA hp
  have H:vA⁻¹.den=vA.num.natAbs:=by omega
  exact⟨by rw[Z];exact Fq vA h,by rw[H];exact h.1⟩
