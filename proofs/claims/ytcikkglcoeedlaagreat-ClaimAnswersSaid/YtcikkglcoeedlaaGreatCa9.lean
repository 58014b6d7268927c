/- Part 9 of the proof of claimAnswers_holds. No condition. -/
import Derived.Deep.LoopGhost
import Derived.Test.YtcikkglcoeedlaaGreatCa7
import Derived.Test.YtcikkglcoeedlaaGreatCa8
set_option linter.unusedSimpArgs false
set_option linter.unusedVariables false
set_option maxRecDepth 100000
set_option maxHeartbeats 2000000
namespace Go.Proofs.YtcikkglcoeedlaaGreat
open Go.RowKit
variable{i j:Int}{l f vo vV:List Nat}{n b T m a k:Nat}{uv:Option Addr}{vL uR:Rat}{t:TypeId}{z v:Value}{w p uz:World}
theorem JS:∀(f x:Nat),x<2^f->x<2^(Lib.bitLenAux f x)/\(x≠0->2^(Lib.bitLenAux f x)<=2*x)
 |0,x,h=>by
  have:x=0:=by simpa using h
  subst this;exact⟨by simp[Lib.bitLenAux],λh=>absurd rfl h⟩
 |f+1,x,h=>by
  unfold Lib.bitLenAux;by_cases E:x=0
  .subst E;exact⟨by simp,λh=>absurd rfl h⟩
  .rw [if_neg E]
   obtain⟨A,B⟩:=JS f (x/2) (by rw[Nat.pow_succ]at h;omega);have e:2^(1+Lib.bitLenAux f (x/2))=2*2^(Lib.bitLenAux f (x/2)):=by rw[Nat.pow_add]
   refine⟨by rw[e];omega,λ_=>?_⟩;rw[e];by_cases g:x/2=0
   .have t:x=1:=by omega
    subst t
    have:Lib.bitLenAux f (1/2)=0:=by
     show Lib.bitLenAux f 0=0;cases f<;>simp[Lib.bitLenAux]
    rw[this];omega
   .have:=B g;omega
theorem ZZ(g:0<n)(A:n<4294967296):∃s:Nat,(32:Int)-(Lib.bitLen n:Int)=s/\s<32/\2147483648<=n*2^s/\(n+1)*2^s<=4294967296:=by
 have f:=JS 64 n ZbK;have F:Lib.bitLen n=Lib.bitLenAux 64 n:=rfl;rw[<-F]at f;generalize Lib.bitLen n=k at f;obtain⟨B,L⟩:=f;have L:=L ZbK
 have U:k<=32:=by
  rcases Nat.lt_or_ge 32 k with h | h
  .have:2^33<=2^k:=Nat.pow_le_pow_right ZbK h
   have e:(2:Nat)^33=8589934592:=by decide
   omega
  .exact h
 have C:1<=k:=by
  rcases Nat.eq_zero_or_pos k with h | h
  .subst h;simp at B;omega
  .exact h
 refine⟨32-k,by omega,by omega,?_,?_⟩
 .have V:2^k*2^(32-k)=4294967296:=by rw [<-Nat.pow_add, show k+(32-k)=32 by omega]
  have m:2^k*2^(32-k)<=2*n*2^(32-k):=Nat.mul_le_mul_right _ L;rw[V,Nat.mul_assoc]at m;omega
 .have V:2^k*2^(32-k)=4294967296:=by rw [<-Nat.pow_add, show k+(32-k)=32 by omega]
  have m:(n+1)*2^(32-k)<=2^k*2^(32-k):=Nat.mul_le_mul_right _ B;omega
theorem Df{y n:Nat}(h:(Aq y).length=n+1):0<(Aq y).getD n 0:=by
 induction n generalizing y with
 |zero=>
  have O:y≠0:=by rintro rfl;rw[BA]at h;simp at h
  rw[Eo O]at h ⊢;have g:(Aq (y/BB)).length=0:=by simpa using h
  have A:=Ba.1 g
  have B:y<BB:=by
   rcases Nat.lt_or_ge y BB with h | h
   .exact h
   .have:=Nat.div_pos h Cv;omega
  simp[Nat.mod_eq_of_lt B];omega
 |succ n q=>
  have O:y≠0:=by rintro rfl;rw[BA]at h;simp at h
  rw[Eo O]at h ⊢;have:=q (y:=y/BB) ZcY;exact Ziz
theorem Uk{y n s t:Nat}(K:(Aq y).length=n+1)(J:(Aq y).getD n 0=t)(b:l.length=n+2)(x:BD l)(q:val l=2^s*y)(A:2147483648<=t*2^s)(B:(t+1)*2^s<=4294967296) :
  val (l.take (n+1))=2^s*y/\2147483648<=l.getD n 0:=by
 have C:=Dz K;rw[Aw,J]at C
 have F:val ((Aq y).take n)<BB^n:=by
  have:=Dw (CM (BR y) n);exact ZiA
 have E:2^s*y<BB^(n+1):=by
  have L:y+1<=BB^n*(t+1):=Zhm
  have V:2^s*(y+1)<=2^s*(BB^n*(t+1)):=Nat.mul_le_mul_left _ L;have m:2^s*(BB^n*(t+1))=BB^n*((t+1)*2^s):=by rw[Nat.mul_left_comm,Nat.mul_comm (2^s)]
  have z:BB^n*((t+1)*2^s)<=BB^n*BB:=Nat.mul_le_mul_left _ (by rw[Br];exact B);have d:0<2^s:=Nat.two_pow_pos s;rw[Nat.pow_succ];rw[Nat.mul_add]at V;omega
 have c:=Dz b
 have g:l.getD (n+1) 0=0:=by
  rcases Nat.eq_zero_or_pos (l.getD (n+1) 0)with h | h
  .exact h
  .exfalso
   have:BB^(n+1)*1<=BB^(n+1)*l.getD (n+1) 0:=Nat.mul_le_mul_left _ h;omega
 rw[g,Nat.mul_zero,Nat.add_zero]at c;refine⟨by rw[<-c,q],?_⟩;have v:=AM l n;rw[<-c,q]at v;have L:BB^n*t<=y:=by omega
 have V:2^s*(BB^n*t)<=2^s*y:=Nat.mul_le_mul_left _ L;have m:2^s*(BB^n*t)=BB^n*(t*2^s):=by rw[Nat.mul_left_comm,Nat.mul_comm (2^s)]
 have z:BB^n*2147483648<=BB^n*(t*2^s):=Nat.mul_le_mul_left _ A
 have d:val (l.take n)<BB^n:=by
  have:=Dw (CM x n);exact ZiA
 have u:BB^n*2147483648<BB^n*(l.getD n 0+1):=Zhm
 have:=Nat.lt_of_mul_lt_mul_left u;omega
def DivRel(w wr:World)(j q A:Nat)(C B U Q:List Nat)(m n k:Nat):Prop:=
 U.length=m+1/\BD U/\Blk wr j 335 (wv U)/\Q.length=m-n+1/\BD Q/\Blk wr A 335 (wv Q)/\Blk wr q 335 (wv B) /\
 val (C.drop k)=val (Q.drop k)*val (B.take n)+val (U.drop k)/\U.take k=C.take k/\val (U.drop k)<val (B.take n)/\Ext w wr
theorem Hg(U:List Nat)(k j:Nat)(h:k+j<=U.length):val (U.drop k)=val ((U.drop k).take j)+BB^j*val (U.drop (k+j)):=by
 have A:U.drop k=(U.drop k).take j++(U.drop k).drop j:=(List.take_append_drop j _).symm;rw[List.drop_drop]at A;have B:((U.drop k).take j).length=j:=Zhz
 calc val (U.drop k) = val ((U.drop k).take j ++ U.drop (k + j)) := by rw [← A]
  _=_:=by rw[Hh,B]
theorem DivRel.window(h:DivRel w p n b T l f vo vV m a (k+1))(C:k+a<=m)(i:2<=a)(J:a<=f.length)(I:BD f) :
  ∃x post,x.length=a+1/\BD x/\Win p n (vo.take k) x post/\val x<BB*val (f.take a)/\val post=0/\vo=vo.take k++x++post/\val x=vo.getD k 0+BB*val (vo.drop (k+1))/\(vo.take k).length=k:=by
 obtain⟨A,B,L,V,E,z,d,u,F,Q,G⟩:=h
 have O:vo=vo.take k++(vo.drop k).take (a+1)++vo.drop (k+(a+1)):=by
  exact ZiC
 have R:val (f.take a)<BB^a:=by
  have:=Dw (CM I a);rwa [List.length_take,Nat.min_eq_left J]at this
 have c:=Ds (l:=vo) (k:=k) ZbK;have v:=Hg vo k (a+1) ZbK;have S:=AI B k
 have N:val (vo.drop k)<BB*val (f.take a):=by
  have:BB*(val (vo.drop (k+1))+1)<=BB*val (f.take a):=Nat.mul_le_mul_left _ Q;rw[Nat.mul_add]at this;omega
 have K:val (vo.drop (k+(a+1)))=0:=by
  rcases Nat.eq_zero_or_pos (val (vo.drop (k+(a+1))))with h | h
  .exact h
  .exfalso
   have t:BB^(a+1)*1<=BB^(a+1)*val (vo.drop (k+(a+1))):=Nat.mul_le_mul_left _ h;have M:BB*val (f.take a)<=BB*BB^a:=Nat.mul_le_mul_left _ (Nat.le_of_lt R);have H:BB^(a+1)=BB*BB^a:=by rw[Nat.pow_succ,Nat.mul_comm]
   omega
 rw[K,Nat.mul_zero,Nat.add_zero]at v;refine⟨(vo.drop k).take (a+1),vo.drop (k+(a+1)),by simp;omega,CM (Pb B k) _,?_,by rw[<-v];exact N,K,O,by rw[<-v];exact c,by simp;omega⟩;unfold Win;rw[<-O];exact L
theorem Gs(h:val f=0):val (l++f)=val l:=by rw[Hh,h,Nat.mul_zero,Nat.add_zero]
theorem DivRel.step{W g U Q x Y post:List Nat}{m A k q:Nat}(h:DivRel w p n b T W g U Q m A (k+1))(E:k+A<=m)(r:W.length=m+1)(F:x.length=A+1)(hU:U=U.take k++x++post)(f:(U.take k).length=k)(j:val post=0)(P:val x=U.getD k 0+BB*val (U.drop (k+1)))
  (l:Y.length=A+1) (xa:BD Y) (v:Win uz n (U.take k) Y post) (a:Only n p uz) (K:q<BB) (Hv:val Y+q*val (g.take A)=val x) (G:val Y<val (g.take A)) (t:w.heap.size<=n) (H:T≠n) (o:b≠n) (xb:b≠T) (xf:w.heap.size<=T) {e:Int} (X:e=(q:Nat)) :
  DivRel w (uz.setCell ⟨T,k,none⟩ (.int .u32 e)) n b T W g (U.take k++Y++post) (Q.set k q) m A k:=by
 obtain⟨B,C,L,V,I,z,d,u,R,N,S⟩:=h;have sU:BD (U.take k):=CM C k;have sp:BD post:=λy O=>C y (by rw[hU];simp[O]);have s:k<U.length:=by omega
 have xc:Blk uz T 335 (wv Q):=(a.block T (Blk.lt z) H).trans z;have xg:Blk uz b 335 (wv g):=(a.block b (Blk.lt d) o).trans d
 have Z:(U.take k++Y++post).drop k=Y++post:=by
  exact ZgI
 have J:(U.take k++Y++post).take k=U.take k:=by
  exact ZgD
 have xe:W.take k=U.take k:=by
  have:(U.take (k+1)).take k=(W.take (k+1)).take k:=by rw[R]
  exact ZgY
 have xd:W.getD k 0=U.getD k 0:=by
  have:(U.take (k+1)).getD k 0=(W.take (k+1)).getD k 0:=by rw[R]
  exact ZgE
 refine⟨?_,?_,?_,by simpa using V,CQ I k K,?_,?_,?_,?_,?_,?_⟩
 .have c:(U.take k++x++post).length=m+1:=by rw [<-hU];exact B
  simp only[List.length_append]at c ⊢;omega
 .intro y O
  rcases List.mem_append.1 O with O | O
  .rcases List.mem_append.1 O with O | O
   .exact sU y O
   .exact xa y O
  .exact sp y O
 .exact Blk.far v (by exact λe=>H e.symm) _
 .rw [X,<-If];exact xc.set k _
 .exact xg.far (by exact xb) _
 .rw [Z, Gs j, Ds (l:=W) ZbK, Ds (l:=Q.set k q) (by rw [List.length_set]; omega), JL, BX ZbK, u, xd]
  have:BB*(val (Q.drop (k+1))*val (g.take A)+val (U.drop (k+1)))=BB*val (Q.drop (k+1))*val (g.take A)+BB*val (U.drop (k+1)):=by rw[Nat.mul_add,Nat.mul_assoc]
  rw[this,Nat.add_mul];omega
 .rw [J,xe]
 .rw [Z,Gs j];exact G
 .refine Ext.set ?_ xf _
  exact⟨a.os.trans S.os,a.tape.trans S.tape,a.output.trans S.output,Nat.le_trans S.size a.size,λi M=>(a.block i (Nat.lt_of_lt_of_le M S.size) ZbK).trans (S.block M)⟩
theorem A09{x y m n s:Nat}(E:(Aq x).length=m)(O:(Aq y).length=n+1)(I:n+1<=m)(J:l.length=m+1)(G:val l=2^s*x)(q:val (f.take (n+1))=2^s*y):val (l.drop (m-(n+1)+1))<val (f.take (n+1)):=by
 have A:x<BB^m:=by have:=Dw (BR x);rwa [Aw,E]at this
 have B:BB^n<=y:=by
  have e:=Dz O;rw[Aw]at e;have:=Df O;have L:BB^n*1<=BB^n*(Aq y).getD n 0:=Nat.mul_le_mul_left _ this;omega
 have c:m-(n+1)+1=m-n:=by omega
 rw[c,q]
 have L:val l=val (l.take (m-n))+BB^(m-n)*val (l.drop (m-n)):=by
  have:=Hh (l.take (m-n)) (l.drop (m-n));exact ZgO
 have C:=Nat.two_pow_pos s;have V:2^s*x<2^s*BB^m:=Nat.mul_lt_mul_of_pos_left A C
 have F:2^s*BB^m=BB^(m-n)*(2^s*BB^n):=by
  rw[Nat.mul_left_comm,<-Nat.pow_add,show m-n+n=m by omega]
 have z:BB^(m-n)*val (l.drop (m-n))<BB^(m-n)*(2^s*BB^n):=by omega
 have d:=Nat.lt_of_mul_lt_mul_left z;have u:2^s*BB^n<=2^s*y:=Nat.mul_le_mul_left _ B;omega
theorem A0a{a b s q r:Nat}(F:0<b)(h:2^s*a=q*(2^s*b)+r)(C:r<2^s*b):a/b=q/\r/2^s=a%b:=by
 have f:0<2^s:=Nat.two_pow_pos s
 have A:(2^s*a)/(2^s*b)=q:=by
  rw[h,Nat.mul_comm q,Nat.mul_add_div (Nat.mul_pos f F),Nat.div_eq_of_lt C,Nat.add_zero]
 have B:(2^s*a)%(2^s*b)=r:=by
  exact ZiD
 rw[Nat.mul_div_mul_left _ _ f]at A;rw[Nat.mul_mod_mul_left]at B;refine⟨A,?_⟩;rw[<-B,Nat.mul_div_cancel_left _ f]
def JT(x y:Nat)(w:World)(e:Ending)(N:World):Prop:=
 ∃(A G:Option Addr) (n c Y f:Nat),e=.returned (.tuple #[.slice A n c,.slice G Y f])/\Words N (.slice A n c) (Aq (x/y))/\Words N (.slice G Y f) (Aq (x%y))/\Ext w N
theorem Words.form{v:Value}(h:Words w v l):∃A n c,v=.slice A n c:=by
 obtain⟨A,c,rfl,_⟩:=h;exact⟨A,_,c,rfl⟩
theorem A08(j J:Value)(N p:List Nat)(w:World)(s:Words w j N)(F:Words w J p)(i:N.length<=4398046511104)(Q:val N<val p) :
  Calls Tryz.prog 319 #[j,J] w (JT (val N) (val p) w):=by
 have Y:=Ae s.small;have T:=Ae F.small;replace s:=Ae s;replace F:=Ae F;have r:EC (val N) (val p)<0:=by unfold EC;rw[if_pos Q];omega
 have n:Hid ((Aq (val N)).length<=35184372088832):=by
  have A:(DB N).length<=N.length:=GK N;rw[AU Y.out]at A;show _<=_;omega
 replace i:=Ae i;replace Q:=Ae Q;go_enter Tryz.func319,Tryz.ntmps319;go_wp2_with fail;refine(DA _ _ _ s.out).mono ?_;rintro e B ⟨L,rfl,E,I⟩;rw[AU Y.out]at E;replace E:=Ae E;replace I:=Ae I;go_wp2_with fail;refine(DA _ _ _ (F.out.ext I.out)).mono ?_;rintro e G ⟨S,rfl,c,C⟩;rw[AU T.out]at c;replace E:=Ae (E.out.ext C);replace C:=Ae (I.out.trans C);replace c:=Ae c;go_wp2_with fail;refine(HU _ _ _ _ _ E.out c.out).mono ?_;rintro e u ⟨rfl,Z⟩;replace E:=Ae (E.out.ext Z);replace Z:=Ae (C.out.trans Z);go_wp2_with fail;refine(Ks _ _ _ E.out n.out).mono ?_;rintro e O ⟨V,rfl,k,K⟩;obtain⟨R,M,d,rfl⟩:=k.form;replace k:=Ae k;replace K:=Ae (Z.out.trans K);go_wp2;go_ret2;refine⟨_,_,_,_,_,_,rfl,?_,?_,K.out⟩
 .exact ZhL
 .rw [Nat.mod_eq_of_lt Q.out];exact k.out
theorem WW(j K:Value)(N p:List Nat)(w:World)(s:Words w j N)(F:Words w K p)(i:N.length<=4398046511104)(R:val p<=val N)(A:(Aq (val p)).length=1) :
  Calls Tryz.prog 319 #[j,K] w (JT (val N) (val p) w):=by
 have W:=Ae s.small;have T:=Ae F.small;replace s:=Ae s;replace F:=Ae F;have H:¬EC (val N) (val p)<0:=by unfold EC;rw[if_neg ZbK];split<;>omega
 have n:Hid ((Aq (val N)).length<=4398046511104):=by
  have A:(DB N).length<=N.length:=GK N;rw[AU W.out]at A;show _<=_;omega
 obtain⟨t,J⟩:∃t,Aq (val p)=[t]:=by
  match Z:Aq (val p),A with
  |[t],_=>exact⟨t,rfl⟩
 have U:Hid (val p=t):=by
  show val p=t;rw[<-Aw (val p),J];simp[val]
 have r:t<4294967296:=by
  have:=BR (val p) t (by rw[J];simp);rwa [Br]at this
 have o:0<t:=by
  have:=Df (y:=val p) (n:=0) A;rw[J]at this;exact Ziz
 replace i:=Ae i;replace R:=Ae R;clear A;replace J:=Ae J;go_enter Tryz.func319,Tryz.ntmps319;go_wp2_with fail;refine(DA _ _ _ s.out).mono ?_;rintro e B ⟨X,rfl,E,I⟩;rw[AU W.out]at E;replace E:=Ae E;replace I:=Ae I;go_wp2_with fail;refine(DA _ _ _ (F.out.ext I.out)).mono ?_;rintro e G ⟨v2,rfl,c,C⟩;rw[AU T.out]at c;replace E:=Ae (E.out.ext C);replace C:=Ae (I.out.trans C);replace c:=Ae c;go_wp2_with fail;refine(HU _ _ _ _ _ E.out c.out).mono ?_;rintro e u ⟨rfl,L⟩;replace E:=Ae (E.out.ext L);replace c:=c.out.ext L;replace L:=Ae (C.out.trans L);rw[J.out]at c;obtain⟨q,a,rfl,S,P,x⟩:=c.open_;obtain⟨O,V,rfl,Q,f⟩:=x ZbV;replace f:u.cell? ⟨O,V,none⟩=some (.int .u32 (t:Nat)):=f 0 ZbV;clear x c;go_wp2_with fail;refine(Ob _ _ t _ E.out n.out o r).mono ?_;rintro e h ⟨v4,rfl,k,M⟩;obtain⟨y,g,d,rfl⟩:=k.form;replace k:=Ae k;replace M:=Ae (L.out.trans M);have Y:val (Aq (val N))%t<18446744073709551616:=by have:=Nat.mod_lt (val (Aq (val N))) o;omega
 replace Y:=Ae Y;clear f;go_wp2_with fail;refine(My _ _ Y.out).mono ?_;rintro e l ⟨v5,rfl,m,b⟩;obtain⟨z,n5,v,rfl⟩:=m.form;replace k:=Ae (k.out.ext b);replace m:=Ae m;replace b:=Ae (M.out.trans b);go_wp2;go_ret2;refine⟨_,_,_,_,_,_,rfl,?_,?_,b.out⟩
 .have:=k.out;rw[Aw]at this;rw[U.out];exact this
 .have:=m.out;rw[Aw]at this;rw[U.out];exact this
theorem NX(b l n Z c k:Nat)(pre post u v:List Nat)(w:World)(C:pre.length=k)(B:Win w b pre u post)(L:u.length=n+1)(q:n<=v.length)(E:2<=n)(A:n<=4398046511104)(F:BD u)(G:BD v)(o:l≠b)
  (K:Blk w l 335 (wv v)) (J:n+1<=Z) (I:n<=c) (t:2147483648<=v.getD (n-1) 0) (Q:val u<BB*val (v.take n)) :
  Calls Tryz.prog 328 #[.slice (some ⟨b,k,none⟩) (n+1) Z,.slice (some ⟨l,0,none⟩) n c] w (A2B w b pre post u (v.take n)):=by
 subst C;refine MF b l 0 n Z c pre post u (v.take n) w B L Zhz E A F (CM G n) o (λi M=>?_) J I ?_ Q
 .rw [Nat.zero_add, K.cell, Dr ZbK]
  simp[M]
 .simp only[List.getD_eq_getElem?_getD,List.getElem?_take]at t ⊢
  rw[if_pos ZbK];exact t
set_option maxRecDepth 1000000 in
theorem WX(P vb:Value)(Y d:List Nat)(w:World)(M:Words w P Y)(F:Words w vb d)(L:Y.length<=4398046511104)(xi:val d<=val Y)(C:2<=(Aq (val d)).length) :
  Calls Tryz.prog 319 #[P,vb] w (JT (val Y) (val d) w):=by
 have xm:=Ae M.small;have xw:=Ae F.small;replace M:=Ae M;replace F:=Ae F;have xV:¬EC (val Y) (val d)<0:=by unfold EC;rw[if_neg ZbK];split<;>omega
 have b:(Aq (val Y)).length<=4398046511104:=by
  have B:(DB Y).length<=Y.length:=GK Y;rw[AU xm.out]at B;omega
 have H:=BH xi;obtain⟨n,j⟩:∃n,(Aq (val d)).length=n+1:=⟨(Aq (val d)).length-1,by omega⟩;obtain⟨m,xa⟩:∃m,(Aq (val Y)).length=m:=⟨_,rfl⟩;have xJ:=Df j;have xK:=AI (BR (val d)) n;generalize J:(Aq (val d)).getD n 0=t at *;unfold BB at xK;obtain⟨s,xr,f,xu,yf⟩:=ZZ xJ xK;rw[xa]at b H;rw[j]at H C;have xz:1<=n:=by omega
 clear C L;replace J:=Ae J;replace j:=Ae j;replace xa:=Ae xa;replace xi:=Ae xi;replace xu:=Ae xu;replace yf:=Ae yf;replace xr:=Ae xr;have xt:=λW=>Cj (m-(n+1)+1) ZbK .i64 .i64 W;have xE:((m-(n+1)+1:Nat):Int)=(m:Int)-((n:Int)+1)+1:=by omega
 rw[xE]at xt;clear xE;go_enter Tryz.func319,Tryz.ntmps319;go_wp2_with fail;refine(DA _ _ _ M.out).mono ?_;rintro e a ⟨v1,rfl,o,r⟩;rw[AU xm.out]at o;replace o:=Ae o;replace r:=Ae r;go_wp2_with fail;refine(DA _ _ _ (F.out.ext r.out)).mono ?_;rintro e u ⟨v2,rfl,z,l⟩;rw[AU xw.out]at z;replace o:=Ae (o.out.ext l);replace l:=Ae (r.out.trans l);replace z:=Ae z;go_wp2_with fail;refine(HU _ _ _ _ _ o.out z.out).mono ?_;rintro e w3 ⟨rfl,xb⟩;replace o:=o.out.ext xb;replace z:=z.out.ext xb;replace xb:=Ae (l.out.trans xb);obtain⟨A1,Z,rfl,xl,yu,xp⟩:=o.open_;clear xp;obtain⟨A2,y,rfl,xj,xW,xq⟩:=z.open_;obtain⟨b2,o2,rfl,xe,xx⟩:=xq (by rw[j.out];omega);replace xx:w3.cell? ⟨b2,o2+n,none⟩=some (.int .u32 (t:Nat)):=by have:=xx n (by rw[j.out];omega);rw[J.out]at this;exact this
 clear xq;rw[j.out]at xj ⊢;rw[xa.out]at xl ⊢;replace o:=Ae o;replace z:=Ae z;have yv:(((n+1:Nat):Int)==1)=false:=Zhz
 go_wp2_with fail;refine(Go.Proofs.Tryz.bits_LeadingZeros32 _ _ ZbK ZbK).mono ?_;rintro e w3 ⟨rfl,rfl⟩;rw[Int.toNat_natCast,xr.out];have yi:Hid (Words w3 (.slice A1 m Z) (Aq (val Y))):=by have:=o.out;rw[xa.out]at this;exact this
 have yj:Hid (Words w3 (.slice (some ⟨b2,o2,none⟩) (n+1) y) (Aq (val d))):=by have:=z.out;rw[j.out]at this;exact this
 clear o z xx;go_wp2_with fail;refine(KO _ _ s _ yi.out (by rw[xa.out];exact b) f).mono ?_;rintro e w4 ⟨gu,ul,rfl,xH,xY,xG,xy,xX,xf⟩;rw[xa.out]at xH ⊢;have z:=Ae (yj.out.ext xf);clear yi yj;go_wp2_with fail;refine(KO _ _ s _ z.out (by rw[j.out];omega) f).mono ?_;rintro e w5 ⟨gv,vl,rfl,xn,xT,xA,xZ,xM,xs⟩;have yk:gv≠gu:=by have:=Blk.lt xy;omega
 rw[j.out]at xn ⊢;clear z;rw[Aw]at xX xM;have V:=Ae (Uk j.out J.out xn xT xM xu.out yf.out);replace xy:=xy.ext xs;replace xs:=xb.out.trans (xf.trans xs);replace xH:=Ae xH;replace xn:=Ae xn;replace xY:=Ae xY;replace xT:=Ae xT;replace xX:=Ae xX;replace xM:=Ae xM;replace xy:=Ae xy;replace xZ:=Ae xZ;replace xs:=Ae xs;have yB:=Blk.lt xy.out;have yC:=Blk.lt xZ.out;have yd:w.heap.size<=gu:=Nat.le_trans xb.out.size xG;have yg:=xs.out.size;replace yd:=Ae yd;replace yg:=Ae yg;clear xf xG xA;go_wp2;go_loopw [13] (λi wr=>∃(k:Nat) (U Q:List Nat),k<=m-(n+1)+1/\i=.int .i64 ((k:Int)-1)/\Hid (DivRel w wr gu gv w5.heap.size ul vl U Q m (n+1) k)) (λi _=>(intOf i+1).toNat)
 case atStart=>
  refine⟨m-(n+1)+1,ul,List.replicate (m-(n+1)+1) 0,Nat.le_refl _,by congr 1;omega,xH.out,xY.out,xy.out.alloc _,by simp,Cc _,Blk.new _ _ _,xZ.out.alloc _,?_,rfl,?_,xs.out.alloc _⟩
  .exact ZaD
  .exact A09 xa.out j.out H xH.out xX.out V.out.1
 case round=>
  obtain⟨k,U,Q,E,rfl,T⟩:=hrel;by_cases xk:k=0
  .subst xk
   have xL:Hid (Words wr (.slice (some ⟨w5.heap.size,0,none⟩) (m-(n+1)+1) (m-(n+1)+1)) Q):=by
    have:=Cn (c:=m-(n+1)+1) T.out.2.2.2.2.2.1 T.out.2.2.2.2.1 Zdx ZbK;rw[T.out.2.2.2.1]at this;exact this
   have ys:Hid ((U.take (n+1)).length=n+1):=by show _=_;rw[List.length_take,T.out.1];omega
   have xI:Hid (Words wr (.slice (some ⟨gu,0,none⟩) (n+1) (m+1)) (U.take (n+1))):=by
    have:=Cn (c:=m+1) T.out.2.2.1 T.out.2.1 Zcr ZbK;have:=this.take (k:=n+1) Zcr;exact this
   have xc:Hid (val Y/val d=val Q/\val (U.take (n+1))/2^s=val Y%val d):=by
    have B:=T.out.2.2.2.2.2.2.2.1;have C:=T.out.2.2.2.2.2.2.2.2.2.1;simp only[List.drop_zero]at B C;rw[xX.out,V.out.1]at B;rw[V.out.1]at C
    have yc:0<val d:=by
     rcases Nat.eq_zero_or_pos (val d)with h | h
     .have:=j.out;rw[h,BA]at this;simp at this
     .exact h
    have yt:val (U.take (n+1))=val U:=by
     have e:=Hg U 0 (n+1) Zcr;simp only[List.drop_zero,Nat.zero_add]at e
     have ya:2^s*val d<BB^(n+1):=by
      rw[<-V.out.1];have:=Dw (CM xT.out (n+1));rwa [List.length_take,xn.out,Nat.min_eq_left ZbK]at this
     rcases Nat.eq_zero_or_pos (val (U.drop (n+1)))with h | h
     .rw [h,Nat.mul_zero,Nat.add_zero]at e;exact e.symm
     .exfalso
      have:BB^(n+1)*1<=BB^(n+1)*val (U.drop (n+1)):=Nat.mul_le_mul_left _ h;omega
    rw[yt];exact A0a yc B C
   go_wp2
   refine wp_region_v ZbM [[], [(81, 0)], [], [], [(83, 2), (84, 3)], [], [(85, 4), (86, 5)]] [[], [0], [], [], [2, 3], [], [0, 1, 2, 3, 4, 5]]
    [λv _=>v=.slice (some ⟨w5.heap.size,0,none⟩) (m-(n+1)+1) (m-(n+1)+1),λv N=>∃A n c,v=.slice A n c/\Words N (.slice A n c) (Aq (val Y/val d)),λv _=>v=.slice (some ⟨gu,0,none⟩) (m+1) (m+1),λv _=>v=.int .i64 ((n:Int)+1),λv _=>v=.slice (some ⟨gu,0,none⟩) (n+1) (m+1),λv _=>v=.int .i64 (s:Int),λv N=>∃A n c,v=.slice A n c/\Words N (.slice A n c) (Aq (val Y%val d))]
    rfl ZbM ZbM ?stab ?steps ?fin
   case stab=>exact .cons (Stab.eq _) (.cons (λ_ _ _ X ⟨A,n,c,B,C⟩=>⟨A,n,c,B,C.ext X⟩) (.cons (Stab.eq _) (.cons (Stab.eq _) (.cons (Stab.eq _) (.cons (Stab.eq _) (.cons (λ_ _ _ X ⟨A,n,c,B,C⟩=>⟨A,n,c,B,C.ext X⟩) .nil))))))
   case steps=>
    refine .cons ?s0 (.cons ?s1 (.cons ?s2 (.cons ?s3 (.cons ?s4 (.cons ?s5 (.cons ?s6 .nil))))))
    case s0=>
     intro N K S E M I p;have xS:K (.tmp 12)=.slice (some ⟨w5.heap.size,0,none⟩) (m-(n+1)+1) (m-(n+1)+1):=M 12 ZbN;exact Ar (by simp[execOp,xS,go_sem]) rfl
    case s1=>
     intro N K S E M I p;have yn:K (.tmp 81)=.slice (some ⟨w5.heap.size,0,none⟩) (m-(n+1)+1) (m-(n+1)+1):=E.1 _ rfl;refine Cl (by simp[execOp,resolve,invoke,p,yn,go_sem]) (DA _ _ _ (xL.out.ext ((Ext.refl _).drew.trans S))) ?_;rintro e a ⟨v1,rfl,o,r⟩;obtain⟨A1,n1,Z,rfl⟩:=o.form;exact⟨_,rfl,r,_,_,_,rfl,by rw[AU T.out.2.2.2.2.1,<-xc.out.1]at o;exact o⟩
    case s2=>
     intro N K S E M I p;have xF:K (.tmp 10)=.slice (some ⟨gu,0,none⟩) (m+1) (m+1):=M 10 ZbN;exact Ar (by simp[execOp,xF,go_sem]) rfl
    case s3=>
     intro N K S E M I p;have e8:K (.tmp 8)=.int .i64 ((n:Int)+1):=M 8 ZbN;exact Ar Zez rfl
    case s4=>
     intro N K S E M I p;have yo:K (.tmp 83)=.slice (some ⟨gu,0,none⟩) (m+1) (m+1):=E.1 _ rfl;have yp:K (.tmp 84)=.int .i64 ((n:Int)+1):=E.2.1 _ rfl;have yw:(n:Int)+1<=(m:Int)+1:=by omega
     have yx:(0:Int)<=(n:Int)+1:=by omega
     exact Ar (by simp[execOp,yo,yp,yw,yx,go_sem]) rfl
    case s5=>
     intro N K S E M I p;have e9:K (.tmp 9)=.int .i64 (s:Int):=M 9 ZbN;exact Ar (by simp[execOp,e9,go_sem]) rfl
    case s6=>
     intro N K S E M I p;have yq:K (.tmp 85)=.slice (some ⟨gu,0,none⟩) (n+1) (m+1):=E.1 _ rfl;have yr:K (.tmp 86)=.int .i64 (s:Int):=E.2.1 _ rfl;refine Cl (by simp[execOp,resolve,invoke,p,yq,yr,go_sem]) (Pc _ _ s _ (xI.out.ext ((Ext.refl _).drew.trans S)) (by rw[ys.out];omega) f) ?_;rintro e a ⟨v1,rfl,o,r⟩;obtain⟨A1,n1,Z,rfl⟩:=o.form;exact⟨_,rfl,r,_,_,_,rfl,by rw[xc.out.2]at o;exact o⟩
   case fin=>
    intro g N S hF;obtain⟨yy,ym,yh,G,xg⟩:=hF 1 _ rfl;obtain⟨yz,yD,yA,O,xD⟩:=hF 6 _ rfl;simp only[List.length_cons,List.length_nil,Nat.reduceAdd,List.drop_succ_cons,List.drop_zero,List.take_succ_cons,List.take_zero,EG,Act.put,List.setIfInBounds_toArray,List.set_cons_succ,List.set_cons_zero,G,O];clear hF G O;replace xg:=Ae xg;replace xD:=Ae xD;replace S:=Ae (T.out.2.2.2.2.2.2.2.2.2.2.trans ((Ext.refl _).drew.trans S));go_wp2;go_ret2;exact⟨_,_,_,_,_,_,rfl,xg.out,xD.out,S.out⟩
  .obtain ⟨k, rfl⟩:∃q, k=q+1:=⟨k-1, by omega⟩
   have xg:((k+1:Nat):Int)-1=k:=by omega
   rw[xg];obtain⟨x,post,xp,xq,xN,xO,xP,xQ,xR,xB⟩:=T.out.window ZbK ZbK ZdT xT.out;replace xp:=Ae xp;replace xq:=Ae xq;replace xN:=Ae xN;replace xO:=Ae xO;replace xP:=Ae xP;replace xQ:=Ae xQ;replace xR:=Ae xR;replace xB:=Ae xB;go_wp2_with fail;rw[show k+(n+1)+1-k=n+1+1 by omega];refine(NX gu gv (n+1) _ _ k (U.take k) post x vl wr xB.out xN.out xp.out ZdT ZbK ZbK xq.out xT.out yk T.out.2.2.2.2.2.2.1 ZbK ZbK V.out.2 xO.out).mono ?_;rintro e w6 ⟨q,x',rfl,R,xv,xU,yb,hO,Hv,ye⟩;rw[xp.out]at xv;have xo:q<4294967296:=by rwa [Br]at R
   have xC:Blk w6 w5.heap.size 335 (wv Q):=(hO.block _ (Blk.lt T.out.2.2.2.2.2.1) ZbK).trans T.out.2.2.2.2.2.1;have yl:w6.cell? ⟨w5.heap.size,k,none⟩=some (.int .u32 (Q.getD k 0:Nat)):=by rw[xC.cell,Dr Zdx]
   have xd:=xC.frozen k;have xh:=T.out.step ZbK xH.out xp.out xQ.out xB.out xP.out xR.out xv xU yb hO R Hv ye yd.out ZbK yk ZbK yg.out (e:=(q:Nat)) rfl;replace xh:=Ae xh;clear xv xU yb hO Hv ye xC R;go_wp2;exact⟨⟨k,_,_,by omega,rfl,xh⟩,by simp[intOf]⟩
theorem Lh(j C:Value)(N p:List Nat)(w:World)(s:Words w j N)(F:Words w C p)(i:N.length<=4398046511104)(g:val p≠0) :
  Calls Tryz.prog 319 #[j,C] w (JT (val N) (val p) w):=by
 rcases Nat.lt_or_ge (val N) (val p)with h | h
 .exact A08 j C N p w s F i h
 .by_cases A:(Aq (val p)).length=1
  .exact WW j C N p w s F i h A
  .have B:(Aq (val p)).length≠0:=λe=>g (Ba.1 e)
   exact WX j C N p w s F i h ZbK
theorem EJ(h:(Aq n).length<=b):n<BB^b:=by
 have:=Dw (BR n);rw[Aw]at this;exact Nat.lt_of_lt_of_le this (Nat.pow_le_pow_right Cv h)
theorem Iw{x k:Nat}(h:x<BB^k):(Aq x).length<=k:=by
 induction k generalizing x with
 |zero=>simp at h;subst h;rw[BA];simp
 |succ k q=>
  by_cases E:x=0
  .subst E;rw[BA];simp
  .rw [Eo E]
   simp only[List.length_cons];have:=q (x:=x/BB) (Nat.div_lt_of_lt_mul (by rw[Nat.pow_succ,Nat.mul_comm]at h;exact h));omega
theorem Zj:BB^2=18446744073709551616:=by decide
theorem Dh{x y k:Nat}(h:x<=y)(O:(Aq y).length<=k):(Aq x).length<=k:=Nat.le_trans (BH h) O
def A2W(W:World)(G N k:Nat)(X Y:Value)(wr:World):Prop:=
 ∃(x y:Nat) (A C:Option Addr) (n c B f:Nat),X=.slice A n c/\Y=.slice C B f/\Words wr (.slice A n c) (Aq x)/\Words wr (.slice C B f) (Aq y)/\Nat.gcd x y=G/\y=k/\(Aq x).length<=N/\(Aq y).length<=N/\Ext W wr
def A68(G:Nat)(m n:Value):Prop:=∃p q:Nat,m=.int .u64 p/\n=.int .u64 q/\p<18446744073709551616/\q<18446744073709551616/\Nat.gcd p q=G
theorem Words.len(h:Words w (.slice uv n b) l):n=l.length:=by
 obtain⟨G,f,q,_⟩:=h;injection q
theorem A3N(b r:Bool)(A P:Option Addr)(n c L l:Nat)(x y:Int)(w:World)(h:IsInt w (.bool b) (.slice A n c) x)(d:IsInt w (.bool r) (.slice P L l) y)(i:(Aq x.natAbs).length<=4398046511104)(xc:(Aq y.natAbs).length<=4398046511104) :
  Calls Tryz.prog 290 #[.agg #[.bool b,.slice A n c],.agg #[.bool r,.slice P L l]] w (Ik (Nat.gcd x.natAbs y.natAbs) w):=by
 replace h:=Ae h;replace d:=Ae d;replace i:=Ae i;replace xc:=Ae xc;go_enter Tryz.func290,Tryz.ntmps290;go_wp2
 refine wp_region_v ZbM [[], [(11, 0)], [(12, 1)], [(13, 2)], [], [(15, 4)], [(16, 5)], [(17, 6)]] [[], [0], [0, 1], [0, 1, 2], [], [4], [0, 1, 2, 3, 4, 5], [0, 1, 2, 3, 4, 5, 6]]
  [λv _=>v=.pointer (some ⟨w.heap.size,1,none⟩),λv _=>v=.slice A n c,λv N=>∃A n c,v=.slice A n c/\Words N (.slice A n c) (Aq x.natAbs),λv N=>∃A n c,v=.slice A n c/\Words N (.slice A n c) (Aq x.natAbs),λv _=>v=.pointer (some ⟨w.heap.size+1,1,none⟩),λv _=>v=.slice P L l,λv N=>∃A n c,v=.slice A n c/\Words N (.slice A n c) (Aq y.natAbs),λv N=>∃A n c,v=.slice A n c/\Words N (.slice A n c) (Aq y.natAbs)]
  rfl ZbM ZbM ?stab ?steps ?fin
 case stab=>exact .cons (Stab.eq _) (.cons (Stab.eq _) (.cons (λ_ _ _ K ⟨A,n,c,B,C⟩=>⟨A,n,c,B,C.ext K⟩) (.cons (λ_ _ _ K ⟨A,n,c,B,C⟩=>⟨A,n,c,B,C.ext K⟩) (.cons (Stab.eq _) (.cons (Stab.eq _) (.cons (λ_ _ _ K ⟨A,n,c,B,C⟩=>⟨A,n,c,B,C.ext K⟩) (.cons (λ_ _ _ K ⟨A,n,c,B,C⟩=>⟨A,n,c,B,C.ext K⟩) .nil)))))))
 case steps=>
  refine .cons ?s0 (.cons ?s1 (.cons ?s2 (.cons ?s3 (.cons ?s4 (.cons ?s5 (.cons ?s6 (.cons ?s7 .nil)))))))
  case s0=>
   intro N O S E s I R;have V:O (.tmp 2)=.pointer (some ⟨w.heap.size,0,none⟩):=s 2 ZbN;exact Ar (by simp[execOp,V,go_sem]) rfl
  case s1=>
   intro N O S E s I R;have xw:O (.tmp 11)=.pointer (some ⟨w.heap.size,1,none⟩):=E.1 _ rfl;have m:N.cell? ⟨w.heap.size,1,none⟩=some (.slice A n c):=S.cellv (((((Blk.new _ _ _).alloc _).alloc _).drew.cell 1));exact Ar (by simp[execOp,xw,m,go_sem]) rfl
  case s2=>
   intro N O S E s I R;have xx:O (.tmp 12)=.slice A n c:=E.1 _ rfl;refine Cl (by simp[execOp,resolve,invoke,R,xx,go_sem]) (DA _ _ _ (h.out.2.ext (((((Ext.refl _).alloc _).alloc _).alloc _).drew.trans S))) ?_;rintro e j ⟨v1,rfl,H,T⟩;exact Zgy
  case s3=>
   intro N O S E s I R;have xM:=E.1 _ rfl;obtain⟨A3,n3,c3,xy,xJ⟩:=xM;refine Cl (by simp[execOp,resolve,invoke,R,xy,go_sem]) (Ks _ _ _ xJ (by have:=i.out;omega)) ?_;rintro e j ⟨v1,rfl,H,T⟩;exact ZgZ
  case s4=>
   intro N O S E s I R;have u:O (.tmp 3)=.pointer (some ⟨w.heap.size+1,0,none⟩):=s 3 ZbN;exact Ar (by simp[execOp,u,go_sem]) rfl
  case s5=>
   intro N O S E s I R;have xF:O (.tmp 15)=.pointer (some ⟨w.heap.size+1,1,none⟩):=E.1 _ rfl;have m:N.cell? ⟨w.heap.size+1,1,none⟩=some (.slice P L l):=S.cellv ((((Eb _ _ ZbV).alloc _).drew.cell 1));exact Ar (by simp[execOp,xF,m,go_sem]) rfl
  case s6=>
   intro N O S E s I R;have xH:O (.tmp 16)=.slice P L l:=E.1 _ rfl;refine Cl (by simp[execOp,resolve,invoke,R,xH,go_sem]) (DA _ _ _ (d.out.2.ext (((((Ext.refl _).alloc _).alloc _).alloc _).drew.trans S))) ?_;rintro e j ⟨v1,rfl,H,T⟩;exact Zgy
  case s7=>
   intro N O S E s I R;have xN:=E.1 _ rfl;obtain⟨A3,n3,c3,xI,xJ⟩:=xN;refine Cl (by simp[execOp,resolve,invoke,R,xI,go_sem]) (Ks _ _ _ xJ (by have:=xc.out;omega)) ?_;rintro e j ⟨v1,rfl,H,T⟩;exact ZgZ
 case fin=>
  intro g N S hF;obtain⟨AX,nX,cX,u,hX⟩:=hF 3 _ rfl;obtain⟨AY,nY,cY,e7,hY⟩:=hF 7 _ rfl;simp only[List.length_cons,List.length_nil,Nat.reduceAdd,List.drop_succ_cons,List.drop_zero,List.take_succ_cons,List.take_zero,EG,Act.put,List.setIfInBounds_toArray,List.set_cons_succ,List.set_cons_zero,u,e7];clear hF u e7;replace hX:=Ae hX;replace hY:=Ae hY;replace S:=Ae S;generalize hG:Nat.gcd x.natAbs y.natAbs=G at *;replace hG:=Ae hG;go_wp2;go_loopg [5,6] (y.natAbs) (λk X Y wr=>A2W (((w.alloc (Obj.cells #[Value.bool b,Value.slice A n c] 109)).alloc (Obj.cells #[Value.bool r,Value.slice P L l] 109)).alloc (Obj.cells #[Value.bool false,Value.slice none 0 0] 109)).drew G 4398046511104 k X Y wr)
  case atStart=>exact⟨_,_,_,_,_,_,_,_,rfl,rfl,hX.out,hY.out,hG.out,rfl,i.out,xc.out,S.out⟩
  case round=>
   obtain⟨p,q,A1,A2,n1,f,n2,c2,rfl,rfl,H,xb,xo,rfl,U,z,xl⟩:=hrel;clear hX hY S;have xu:=H.len;have xt:=xb.len;by_cases xr:q=0
   .subst xr
    obtain rfl:n2=0:=by rw[xt,BA];rfl
    have F:Hid (p=G):=by show p=G;rw[<-xo];simp
    replace H:=Ae H;replace xl:=Ae xl;clear xu xt xo xb U z;go_wp2_with fail;refine(DQ _ _ _ _ H.out).mono ?_;rintro e w2 ⟨b2,A2,n2,k2,rfl,xh,o⟩;rw[Aw,F.out]at xh;replace o:=Ae (xl.out.trans o);replace xh:=Ae xh;obtain⟨xa,xf⟩:=o.out.cells;go_wp2;refine bodyPost_ret (v:=.agg #[.bool b2,.slice A2 n2 k2]) ZeK rfl ⟨_,_,_,_,rfl,?_,?_⟩
    .have J:Ty w2 (w.heap.size+2) 109:=(EB _ _ ZbV).drew.ext o.out
     exact(xh.out.set J ZbN _).set (J.set _ _) ZbN _
    .exact (((((Ext.refl _).alloc _).alloc _).alloc _).drew.trans o.out |>.set Zcz _).set Zcz _
   .have xs:0<n2:=by
     rcases Nat.eq_zero_or_pos n2 with M | M
     .exact absurd (Ba.1 (xt.symm.trans M)) xr
     .exact M
    by_cases xE:n1<=2/\n2<=2
    .obtain ⟨xm,xp⟩:=xE
     have xD:p<18446744073709551616:=by rw[<-Zj];exact EJ ZbK
     have xj:q<18446744073709551616:=by rw[<-Zj];exact EJ ZbK
     have xA:(Aq p).length<=2:=by omega
     have xB:(Aq q).length<=2:=by omega
     replace H:=Ae H;replace xb:=Ae xb;replace xl:=Ae xl;replace xo:=Ae xo;replace xA:=Ae xA;replace xB:=Ae xB;replace xD:=Ae xD;replace xj:=Ae xj;clear xu xt U z;have d1:decide ((n1:Int)<=2)=true:=by simp;omega
     have d2:decide ((n2:Int)<=2)=true:=by simp;omega
     go_wp2_with fail;refine(Rn _ _ _ H.out xA.out).mono ?_;rintro e j ⟨rfl,T⟩;replace xb:=Ae (xb.out.ext T);replace T:=Ae (xl.out.trans T);go_wp2_with fail;refine(Rn _ _ _ xb.out xB.out).mono ?_;rintro e w2 ⟨rfl,o⟩;replace o:=Ae (T.out.trans o);rw[Aw,Aw];go_wp2;go_loopw [7,8] (λmm nn wr=>A68 G mm nn/\Hid (Ext (((w.alloc (Obj.cells #[Value.bool b,Value.slice A n c] 109)).alloc (Obj.cells #[Value.bool r,Value.slice P L l] 109)).alloc (Obj.cells #[Value.bool false,Value.slice none 0 0] 109)).drew wr)) (λ_ nn _=>(intOf nn).toNat)
     case atStart=>exact⟨⟨p,q,rfl,rfl,xD.out,xj.out,xo.out⟩,o.out⟩
     case round=>
      obtain⟨⟨p,q,rfl,rfl,F,W,a⟩,xn⟩:=hrel;clear xo xD xj o T xl H xb xA xB;replace a:=Ae a;by_cases Z:q=0
      .subst Z
       have xO:Hid (p=G):=by show p=G;rw[<-a.out];simp
       replace F:=Ae F;go_wp2_with fail;refine(My _ _ F.out).mono ?_;rintro e w3 ⟨v3,rfl,xq,xd⟩;replace xd:=Ae (xn.out.trans xd);replace xq:=Ae xq;go_wp2_with fail;refine(DQ _ _ _ _ xq.out).mono ?_;rintro e w2 ⟨b2,A2,n2,k2,rfl,xh,o⟩;rw[Aw,xO.out]at xh;replace o:=Ae (xd.out.trans o);replace xh:=Ae xh;obtain⟨xa,xf⟩:=o.out.cells;go_wp2;refine bodyPost_ret (v:=.agg #[.bool b2,.slice A2 n2 k2]) ZeK rfl ⟨_,_,_,_,rfl,?_,?_⟩
       .have J:Ty w2 (w.heap.size+2) 109:=(EB _ _ ZbV).drew.ext o.out
        exact(xh.out.set J ZbN _).set (J.set _ _) ZbN _
       .exact (((((Ext.refl _).alloc _).alloc _).alloc _).drew.trans o.out |>.set Zcz _).set Zcz _
      .have xg:(1:Int)<=q:=by omega
       have t:Hid ((p:Int)%q=((p%q:Nat):Int)):=(Int.natCast_emod _ _).symm;replace F:=Ae F;have xK:=Ae W;clear W;go_wp2;go_quiet (fail);go_wp2;rw[t.out];refine⟨⟨⟨q,p%q,rfl,rfl,xK.out,?_,?_⟩,xn.out.drewN _⟩,?_⟩
       .have:=Nat.mod_lt p (show 0<q by omega)
        have:=xK.out;omega
       .have:=a.out
        rw[<-this,Nat.gcd_comm p q,Nat.gcd_rec q p,Nat.gcd_comm]
       .have:=Nat.mod_lt p (show 0<q by omega)
        simp only[intOf];omega
    .have xC:(Aq p).length<=4398046511104:=U
     have xL:Hid (Nat.gcd q (p%q)=G):=by
      show _=G;rw[<-xo,Nat.gcd_comm p q,Nat.gcd_rec q p,Nat.gcd_comm]
     have xz:Hid ((Aq (p%q)).length<=4398046511104):=Dh (Nat.le_of_lt (Nat.mod_lt p (Nat.pos_of_ne_zero xr))) z;have xG:Hid (val (Aq q)≠0):=by show _≠0;rw[Aw];exact xr
     have Q:Hid (p%q<q):=Nat.mod_lt p (Nat.pos_of_ne_zero xr);replace H:=Ae H;replace xb:=Ae xb;replace xl:=Ae xl;replace xC:=Ae xC;replace z:=Ae z;clear xu xt xo U xr;have xv:Hid (¬(n1<=2/\n2<=2)):=xE;clear xE;by_cases d1:n1<=2
     .have xk:decide ((n1:Int)<=2)=true:=by simp; omega
      have xi:decide ((n2:Int)<=2)=false:=by have:=xv.out;simp;omega
      clear xv;go_wp2_with fail;refine(Lh _ _ _ _ _ H.out xb.out xC.out xG.out).mono ?_;rintro e w2 ⟨A3,A4,n3,c3,n4,c4,rfl,xq,xe,o⟩;rw[Aw,Aw]at xe;replace xb:=Ae (xb.out.ext o);replace o:=Ae (xl.out.trans o);replace xe:=Ae xe;clear xq;go_wp2;go_roundg (p%q)
      case measure=>exact Q.out
      case rel=>exact⟨_,_,_,_,_,_,_,_,rfl,rfl,xb.out,xe.out,xL.out,rfl,z.out,xz.out,o.out⟩
     .have xk:decide ((n1:Int)<=2)=false:=by simp; omega
      clear xv;go_wp2_with fail;refine(Lh _ _ _ _ _ H.out xb.out xC.out xG.out).mono ?_;rintro e w2 ⟨A3,A4,n3,c3,n4,c4,rfl,xq,xe,o⟩;rw[Aw,Aw]at xe;replace xb:=Ae (xb.out.ext o);replace o:=Ae (xl.out.trans o);replace xe:=Ae xe;clear xq;go_wp2;go_roundg (p%q)
      case measure=>exact Q.out
      case rel=>exact⟨_,_,_,_,_,_,_,_,rfl,rfl,xb.out,xe.out,xL.out,rfl,z.out,xz.out,o.out⟩
def A2s(q r:Int)(w:World)(e:Ending)(N:World):Prop:=
 ∃(b B:Bool) (A G:Option Addr) (n c Y f:Nat),e=.returned (.tuple #[.agg #[.bool b,.slice A n c],.agg #[.bool B,.slice G Y f],.int .i64 0])/\IsInt N (.bool b) (.slice A n c) q/\IsInt N (.bool B) (.slice G Y f) r/\Ext w N
theorem UW{x y q r:Int}(O:y≠0)(h:r+y*q=x)(g:0<=r)(A:r<y.natAbs):x/y=q/\x%y=r:=by
 rcases Int.lt_or_gt_of_ne O with K | hpos
 .have:=(Int.ediv_emod_unique' (a:=x) (b:=y) (r:=r) (q:=q) K).2 ⟨h, g, by omega⟩
  exact this
 .have:=(Int.ediv_emod_unique (a:=x) (b:=y) (r:=r) (q:=q) hpos).2 ⟨h, g, by omega⟩
  exact this
theorem Vb{x y:Int}(hy:y≠0)(h:¬x<0\/x.natAbs%y.natAbs=0):x/y=IG (!(decide (x<0)==decide (y<0))) (x.natAbs/y.natAbs)/\x%y=IG false (x.natAbs%y.natAbs):=by
  have hyp:0<y.natAbs:=by omega
  have e:=Nat.div_add_mod x.natAbs y.natAbs
  have hlt:=Nat.mod_lt x.natAbs hyp
  generalize x.natAbs/y.natAbs=q at *
  generalize x.natAbs%y.natAbs=r at *
  have e':(y.natAbs:Int)*q+r=x.natAbs:=by exact_mod_cast e
  refine UW hy ?_ (by simp [IG]) (by simp [IG];omega)
  have hsx:=LC (z:=x)
  have hsy:=LC (z:=y)
  by_cases hx:x<0
  . have hr : r = 0 := by rcases h with h | h
                          . exact absurd hx h
                          . exact h
    subst hr
    by_cases hy2:y<0
    . have ex:(x.natAbs:Int) = -x:=by omega
      have ey:(y.natAbs:Int) = -y:=by omega
      rw [ex,ey] at e'
      simp [IG,hx,hy2]
      rw [Int.neg_mul] at e'
      omega
    . have ex:(x.natAbs:Int) = -x:=by omega
      have ey:(y.natAbs:Int)=y:=by omega
      rw [ex,ey] at e'
      simp [IG,hx,hy2]
      rw [Int.mul_neg]
      omega
  . by_cases hy2:y<0
    . have ex:(x.natAbs:Int)=x:=by omega
      have ey:(y.natAbs:Int) = -y:=by omega
      rw [ex,ey] at e'
      simp [IG,hx,hy2]
      rw [Int.mul_neg]
      rw [Int.neg_mul] at e'
      omega
    . have ex:(x.natAbs:Int)=x:=by omega
      have ey:(y.natAbs:Int)=y:=by omega
      rw [ex,ey] at e'
      simp [IG,hx,hy2]
      omega
theorem Tk(b r:Bool)(A K:Option Addr)(n c Y f:Nat)(x y:Int)(w:World)(h:IsInt w (.bool b) (.slice A n c) x)(a:IsInt w (.bool r) (.slice K Y f) y)(i:(Aq x.natAbs).length<=4398046511104)(R:(Aq y.natAbs).length<=4398046511104)(O:y≠0)(I:¬x<0\/x.natAbs%y.natAbs=0) :
  Calls Tryz.prog 291 #[.agg #[.bool b,.slice A n c],.agg #[.bool r,.slice K Y f]] w (A2s (x/y) (x%y) w):=by
 have Z:=Ae h.bool_eq;have Q:=Ae a.bool_eq;have B:=Ae (Vb O I);have P:Hid (y.natAbs≠0):=by show _≠0;omega
 replace h:=Ae h;replace a:=Ae a;replace i:=Ae i;replace R:=Ae R;replace I:=Ae I;go_enter Tryz.func291,Tryz.ntmps291;go_wp2_with fail;refine(DA _ _ _ (a.out.2.ext (((((Ext.refl _).alloc _).alloc _).alloc _).alloc _))).mono ?_;rintro e E ⟨j,rfl,G,L⟩;rw[AU (BR _),Aw]at G;obtain⟨l,W,C,rfl⟩:=G.form;have t:W≠0:=by rw[G.len];exact λe=>P.out (Ba.1 e)
 have xb:((W:Int)==0)=false:=by simpa using t
 clear t G;obtain⟨N,X⟩:=L.cells;replace L:=Ae L;go_wp2_with fail;refine(Lh _ _ _ _ _ (h.out.2.ext ((((((Ext.refl _).alloc _).alloc _).alloc _).alloc _).trans L.out)) (a.out.2.ext ((((((Ext.refl _).alloc _).alloc _).alloc _).alloc _).trans L.out)) i.out (by rw[Aw];exact P.out)).mono ?_;rintro e M ⟨A3,A4,H,S,p,m,rfl,o,k,F⟩;rw[Aw,Aw]at o k
 have xa:Hid (b=false\/p=0):=by
  rcases I.out with I | I
  .left;rw[Z.out];simpa using I
  .rw [I]at k
   exact .inr (by rw[k.len,BA];rfl)
 replace F:=Ae (L.out.trans F);clear N X;obtain⟨N,X⟩:=F.out.cells;replace o:=Ae o;replace k:=Ae k;clear xb
 cases b with
 |false=>
  clear xa;go_wp2_with fail;refine(DQ _ _ _ _ o.out).mono ?_;rintro e u ⟨b5,A5,n5,z,rfl,s,V⟩;rw[Aw,show r = !(decide (x<0)==decide (y<0))by rw[<-Z.out,<-Q.out];cases r<;>rfl,<-B.out.1]at s;replace k:=Ae (k.out.ext V);replace s:=Ae s;replace V:=Ae (F.out.trans V);clear N X;obtain⟨N,X⟩:=V.out.cells;go_wp2_with fail;refine(DQ _ _ _ _ k.out).mono ?_;rintro e q ⟨b6,A6,n6,U,rfl,T,d⟩;rw[Aw,<-B.out.2]at T;replace s:=Ae (s.out.ext d);replace T:=Ae T;replace d:=Ae (V.out.trans d);clear N X;obtain⟨N,X⟩:=d.out.cells;go_wp2;refine bodyPost_ret (v:=.tuple #[.agg #[.bool b5,.slice A5 n5 z],.agg #[.bool b6,.slice A6 n6 U],.int .i64 0]) ZeP rfl ⟨_,_,_,_,_,_,_,_,rfl,?_,?_,?_⟩
  .exact ZaE
  .exact ZaF
  .exact ZiE
 |true=>
  obtain rfl:p=0:=by
   rcases xa.out with g | g
   .cases g
   .exact g
  clear xa;go_wp2_with fail;refine(DQ _ _ _ _ o.out).mono ?_;rintro e u ⟨b5,A5,n5,z,rfl,s,V⟩;rw[Aw,show(!r) = !(decide (x<0)==decide (y<0))by rw[<-Z.out,<-Q.out];cases r<;>rfl,<-B.out.1]at s;replace k:=Ae (k.out.ext V);replace s:=Ae s;replace V:=Ae (F.out.trans V);clear N X;obtain⟨N,X⟩:=V.out.cells;go_wp2_with fail;refine(DQ _ _ _ _ k.out).mono ?_;rintro e q ⟨b6,A6,n6,U,rfl,T,d⟩;rw[Aw,<-B.out.2]at T;replace s:=Ae (s.out.ext d);replace T:=Ae T;replace d:=Ae (V.out.trans d);clear N X;obtain⟨N,X⟩:=d.out.cells;go_wp2;refine bodyPost_ret (v:=.tuple #[.agg #[.bool b5,.slice A5 n5 z],.agg #[.bool b6,.slice A6 n6 U],.int .i64 0]) ZeP rfl ⟨_,_,_,_,_,_,_,_,rfl,?_,?_,?_⟩
  .exact ZaE
  .exact ZaF
  .exact ZiE
theorem IsInt.one{A:Bool}(h:IsInt w (.bool A) (.slice uv n b) i)(B:i=1):A=false/\n=1/\∃g o,uv=some ⟨g,o,none⟩/\w.cell? ⟨g,o,none⟩=some (.int .u32 1):=by
 subst B
 have Z:Aq (1:Int).natAbs=[1]:=by
  show Aq 1=[1];rw[Eo ZbK];have:(1:Nat)%BB=1:=Nat.mod_eq_of_lt RH;have C:(1:Nat)/BB=0:=Nat.div_eq_of_lt RH;rw[this,C,BA]
 have C:=h.2;rw[Z]at C;obtain⟨G,f,q,_,_,E⟩:=C.open_;injection q with c v x
 subst c;subst x;obtain⟨g,o,M,_,I⟩:=E ZbV;exact⟨h.bool_eq,v,g,o,M,I 0 ZbV⟩
theorem A01(b:Bool)(A:Option Addr)(n c:Nat)(z:Int)(w:World)(h:IsInt w (.bool b) (.slice A n c) z) :
  Calls Tryz.prog 285 #[.agg #[.bool b,.slice A n c]] w λe N=>e=.returned (.bool (decide (z=1)))/\Ext w N:=by
 cases b with
 |true=>
  have M:Hid (decide (z=1)=false):=by
   have:=h.bool_eq;show _=false;simp at this ⊢;omega
  clear h;go_enter Tryz.func285,Tryz.ntmps285;go_wp2;go_ret;exact⟨by rw[M.out];rfl,(Ext.refl _).alloc _⟩
 |false=>
  by_cases i:n=1
  .subst i
   have C:=h.2;have K:=C.len
   obtain⟨t,J⟩:∃t,Aq z.natAbs=[t]:=by
    match Z:Aq z.natAbs,K with
    |[t],_=>exact⟨t,rfl⟩
   rw[J]at C;obtain⟨R,f,q,I,G,E⟩:=C.open_;injection q with F v x
   subst F;subst x;obtain⟨g,o,rfl,O,S⟩:=E ZbV;replace S:w.cell? ⟨g,o,none⟩=some (.int .u32 (t:Nat)):=S 0 ZbV
   have H:Hid (z=(t:Nat)):=by
    have L:z.natAbs=t:=by rw[<-Aw z.natAbs,J];simp[val]
    have V:=h.bool_eq;simp at V;show z=t;omega
   have Q:w.heap.size≠g:=by omega
   clear E C h K v;replace J:=Ae J;by_cases B:t=1
   .subst B
    go_enter Tryz.func285,Tryz.ntmps285;go_wp2;go_ret;exact⟨by rw[H.out];rfl,(Ext.refl _).alloc _⟩
   .have W:((t:Int)==1)=false:=Zhz
    go_enter Tryz.func285,Tryz.ntmps285;go_wp2;go_ret;refine⟨?_,(Ext.refl _).alloc _⟩;have:decide (z=1)=false:=by rw[H.out];exact Zhz
    rw[this];rfl
  .have M:Hid (decide (z=1)=false):=by
    show _=false;simp only[decide_eq_false_iff_not];intro e;exact i (h.one e).2.1
   have W:((n:Int)==1)=false:=by simp;omega
   clear h;go_enter Tryz.func285,Tryz.ntmps285;go_wp2;go_ret;exact⟨by rw[M.out];rfl,(Ext.refl _).alloc _⟩
theorem EV{x y:Int}{N M:Nat}(E:(Aq x.natAbs).length<=N)(O:(Aq y.natAbs).length<=M):(Aq (x*y).natAbs).length<=N+M:=by
 have A:=EJ E;have B:=EJ O
 have L:(x*y).natAbs<BB^(N+M):=by
  rw[Int.natAbs_mul,Nat.pow_add];rcases Nat.eq_zero_or_pos y.natAbs with g | g
  .rw [g,Nat.mul_zero];exact Nat.mul_pos (Nat.pow_pos Cv) (Nat.pow_pos Cv)
  .exact Nat.mul_lt_mul_of_lt_of_le A (Nat.le_of_lt B) (Nat.pow_pos Cv)
 exact Iw L
theorem De{x y:Int}(O:0<y):(Rat.divInt x y).num=x/(Nat.gcd x.natAbs y.natAbs:Int)/\((Rat.divInt x y).den:Int)=y/(Nat.gcd x.natAbs y.natAbs:Int):=by
 obtain⟨d,rfl⟩:=Int.eq_ofNat_of_zero_le (Int.le_of_lt O);have Z:d≠0:=by omega
 have:Rat.divInt x (d:Int)=mkRat x d:=rfl;rw[this,<-Rat.normalize_eq_mkRat Z,Rat.normalize_eq Z];exact⟨rfl,by simp[Int.natCast_ediv]⟩
theorem RL(a b:Rat):(a*b).num=(Rat.divInt a.num b.den).num*(Rat.divInt b.num a.den).num/\(a*b).den=(Rat.divInt a.num b.den).den*(Rat.divInt b.num a.den).den:=by
 have A:=De (x:=a.num) (y:=b.den) (by have:=b.den_nz;omega);have B:=De (x:=b.num) (y:=a.den) (by have:=a.den_nz;omega);have e:a*b=Rat.mul a b:=rfl;rw[e];unfold Rat.mul
 dsimp only
 rw[Int.divExact_eq_ediv,Int.divExact_eq_ediv,Nat.divExact_eq_div,Nat.divExact_eq_div];refine⟨by rw[A.1,B.1];rfl,?_⟩
 have c:(Rat.divInt a.num b.den).den=b.den/Nat.gcd a.num.natAbs b.den:=by
  have:=A.2;simp at this;exact_mod_cast this
 have v:(Rat.divInt b.num a.den).den=a.den/Nat.gcd b.num.natAbs a.den:=by
  have:=B.2;simp at this;exact_mod_cast this
 rw[c,v,Nat.mul_comm]
theorem Se(a b:Rat):a+b=Rat.divInt (a.num*b.den+b.num*a.den) ((a.den:Int)*b.den):=by
 rw[Rat.add_def,Rat.normalize_eq_mkRat];have:((a.den:Int)*b.den)=((a.den*b.den:Nat):Int):=by simp
 rw[this];rfl
theorem Ra(a:Rat)(h:0<a.num):a⁻¹.num=a.den/\(a⁻¹.den:Int)=a.num:=by
 rw[Rat.inv_def];have A:=De (x:=a.den) (y:=a.num) h;have B:Nat.gcd ((a.den:Int).natAbs) a.num.natAbs=1:=by simpa[Nat.gcd_comm]using a.reduced.symm
 rw[B]at A;simpa using A
theorem Rb(a:Rat)(h:a.num<0):a⁻¹.num=-(a.den:Int)/\(a⁻¹.den:Int)=-a.num:=by
 rw[Rat.inv_def,<-Rat.neg_divInt_neg];have A:=De (x:=-(a.den:Int)) (y:=-a.num) ZbK;have B:Nat.gcd ((-(a.den:Int)).natAbs) (-a.num).natAbs=1:=by simpa[Nat.gcd_comm]using a.reduced.symm
 rw[B]at A;simpa using A
theorem WY(x:Int):(Rat.divInt x 1).num=x/\((Rat.divInt x 1).den:Int)=1:=by
 have A:=De (x:=x) (y:=1) ZbK;simpa using A
theorem Qd{x y:Int}(O:0<y)(h:Nat.gcd x.natAbs y.natAbs=1):(Rat.divInt x y).num=x/\((Rat.divInt x y).den:Int)=y:=by
 have A:=De (x:=x) O;rw[h]at A;simpa using A
def IsRat(w:World)(m c a N:Value)(q:Rat):Prop:=IsInt w m c q.num/\IsInt w a N (q.den:Int)
theorem IsRat.ext{m c a N:Value}{q:Rat}(h:IsRat w m c a N q)(X:Ext w p):IsRat p m c a N q:=⟨h.1.ext X,h.2.ext X⟩
def put4(w:World)(b:Nat)(U c g E:Value):World:=(((w.setCell ⟨b,0,none⟩ U).setCell ⟨b,1,none⟩ c).setCell ⟨b,2,none⟩ g).setCell ⟨b,3,none⟩ E
theorem IsInt.put4(h:IsInt w z v i){b:Nat}(J:Ty w b t)(A:t≠335)(U c g E:Value):IsInt (put4 w b U c g E) z v i:=
 ((((h.set (p:=⟨b,0,none⟩) J A _).set (p:=⟨b,1,none⟩) (J.set _ _) A _).set (p:=⟨b,2,none⟩) ((J.set _ _).set _ _) A _).set (p:=⟨b,3,none⟩) (((J.set _ _).set _ _).set _ _) A _)
theorem IsRat.put4{m c a N:Value}(h:IsRat w m c a N vL){b:Nat}(J:Ty w b t)(z:t≠335)(U A g E:Value):IsRat (put4 w b U A g E) m c a N vL:=⟨h.1.put4 J z U A g E,h.2.put4 J z U A g E⟩
theorem Ext.put4(h:Ext w p){b:Nat}(F:w.heap.size<=b)(U c g E:Value):Ext w (put4 p b U c g E):=(((h.set (p:=⟨b,0,none⟩) F _).set (p:=⟨b,1,none⟩) F _).set (p:=⟨b,2,none⟩) F _).set (p:=⟨b,3,none⟩) F _
def A5Q(q:Rat)(w:World)(e:Ending)(N:World):Prop:=
 ∃(b r:Bool) (A G:Option Addr) (n c Y f:Nat),e=.returned (.agg #[.bool b,.slice A n c,.bool r,.slice G Y f])/\IsRat N (.bool b) (.slice A n c) (.bool r) (.slice G Y f) q/\Ext w N
def RSz(q:Rat)(N:Nat):Prop:=(Aq q.num.natAbs).length<=N/\(Aq q.den).length<=N
theorem RSz.mono{q:Rat}(h:RSz q n)(t:n<=b):RSz q b:=⟨Nat.le_trans h.1 t,Nat.le_trans h.2 t⟩
theorem JA(x:Int)(g:Nat)(I:(g:Int)∣x):(x/(g:Int)).natAbs<=x.natAbs:=by
 obtain⟨k,rfl⟩:=I;rcases Nat.eq_zero_or_pos g with h | h
 .subst h;simp
 .rw [Int.mul_ediv_cancel_left _ ZbK, Int.natAbs_mul]
  exact Nat.le_mul_of_pos_left _ ZcY
theorem Kp{x y:Int}(O:0<y):(Rat.divInt x y).num.natAbs<=x.natAbs/\(Rat.divInt x y).den<=y.natAbs:=by
 have h:=De (x:=x) O;have A:((Nat.gcd x.natAbs y.natAbs:Nat):Int)∣x:=Int.ofNat_dvd_left.2 (Nat.gcd_dvd_left _ _);have B:((Nat.gcd x.natAbs y.natAbs:Nat):Int)∣y:=Int.ofNat_dvd_left.2 (Nat.gcd_dvd_right _ _);refine⟨by rw[h.1];exact JA _ _ A,?_⟩;have:=JA _ _ B;rw[<-h.2]at this;exact Ziz
theorem RSz.divInt{x y:Int}{N:Nat}(O:0<y)(E:(Aq x.natAbs).length<=N)(V:(Aq y.natAbs).length<=N):RSz (Rat.divInt x y) N:=
 ⟨Dh (Kp O).1 E,Dh (Kp O).2 V⟩
theorem den_pos(q:Rat):(0:Int)<q.den:=by have:=q.den_nz;omega
theorem RSz.mul{N M:Nat}(G:RSz vL N)(w:RSz uR M):RSz (vL*uR) (N+M):=by
 have h:=RL vL uR;have l:=Kp (x:=vL.num) (den_pos uR);have r:=Kp (x:=uR.num) (den_pos vL);simp only[Int.natAbs_natCast]at l r;constructor
 .rw [h.1]
  exact EV (Dh l.1 G.1) (Dh r.1 w.1)
 .rw [h.2]
  have:=EV (x:=((Rat.divInt vL.num uR.den).den:Int)) (y:=((Rat.divInt uR.num vL.den).den:Int)) (N:=M) (M:=N) (by simpa using Dh l.2 w.2) (by simpa using Dh r.2 G.2);rw[Int.natAbs_mul]at this;simpa[Nat.add_comm]using this
theorem YR(E:(Aq i.natAbs).length<=n)(O:(Aq j.natAbs).length<=n):(Aq (i+j).natAbs).length<=n+1:=by
 have A:=EJ E;have B:=EJ O;refine Iw ?_;have L:=Int.natAbs_add_le i j;have V:2*BB^n<=BB^n*BB:=by rw[Nat.mul_comm];exact Nat.mul_le_mul_left _ ZbN
 rw[Nat.pow_succ];omega
theorem Ez(q:Rat)(h:RSz q n):(Aq (q.den:Int).natAbs).length<=n:=by simpa using h.2
theorem RSz.add{p q:Rat}{N M:Nat}(hp:RSz p N)(w:RSz q M):RSz (p+q) (N+M+1):=by
 rw[Se];refine RSz.divInt (Int.mul_pos (den_pos p) (den_pos q)) ?_ ?_
 .refine YR (EV hp.1 (Ez q w)) ?_
  have:=EV w.1 (Ez p hp);rwa [Nat.add_comm]at this
 .exact Nat.le_trans (EV (Ez p hp) (Ez q w)) ZbK
theorem A4j(h:RSz vL n)(g:vL.num≠0):RSz vL⁻¹ n:=by
 rcases Int.lt_or_gt_of_ne g with i | hp
 .obtain ⟨c,v⟩:=Rb vL i
  have x:vL⁻¹.den=vL.num.natAbs:=by omega
  exact⟨by rw[c,Int.natAbs_neg];exact Ez vL h,by rw[x];exact h.1⟩
 .obtain ⟨c,v⟩:=Ra vL hp
  have x:vL⁻¹.den=vL.num.natAbs:=by omega
  exact⟨by rw[c];exact Ez vL h,by rw[x];exact h.1⟩
end Go.Proofs.YtcikkglcoeedlaaGreat
