/- Part 10 of the proof of claimAnswers_holds. No condition. -/
import Derived.Laws.CopyRow
import Derived.Test.YtcikkglcoeedlaaGreatCa7
import Derived.Test.YtcikkglcoeedlaaGreatCa9
set_option linter.unusedSimpArgs false
set_option linter.unusedVariables false
set_option maxRecDepth 100000
set_option maxHeartbeats 4000000
namespace Go.Proofs.YtcikkglcoeedlaaGreat
open Go.RowKit
variable{vY:Array Oper}{l f vo vV:List Nat}{n b T m a:Nat}{z:Value}{w p uz:World}
theorem Words.old{v:Value}(h:Words w v l)(F:∀k,k<w.heap.size->p.heap[k]? = w.heap[k]?):Words p v l:=by
 obtain⟨A,c,q,I,t,f,E⟩:=h;refine⟨A,c,q,I,t,f,λG=>?_⟩;obtain⟨b,o,a,K,B,C,L⟩:=E G;exact⟨b,o,a,K,B,(F b (Bm C)).trans C,L⟩
theorem OM{P:Program}{rest:List Oper}{o:Oper}{a:Act}{Q:Exit->Act->World->Prop}(V:o.guard=none)(s x:Operand)(t:TypeId)
  (A:o.op=.call { callee:=.builtin .copy,args:=#[s,x],argTypes:=#[t,t] }) (v u:Value) (f:a.eval s=v) (E:a.eval x=u)
  (k:(Builtin.copy_ #[t,t] o.type #[v,u]).run P w=.ok z p) (h:wpList P vY Q rest (a.put o.dst z) p):wpList P vY Q (o::rest) a w:=by
 refine wpList_plain V λK m=>?_;unfold Oper.wp execOp;simp only[A,resolve,invoke,builtin,Sem.run_bind,Sem.run_pure,Result.andThen_ok,List.map_toArray,List.map_cons,List.map_nil,f,E,k];exact m _ _ h
theorem Pg{A:Option Addr}{c:Nat}(J:Blk w n 335 (wv (List.replicate b 0)))(h:Words w (.slice A l.length c) l)(g:0<l.length)(K:l.length<=b) :
  ∃N,(Builtin.copy_ #[107,107] 3 #[.slice (some ⟨n,0,none⟩) b b,.slice A l.length c]).run Tryz.prog w=.ok (goInt l.length) N/\Blk N n 335 (wv (l++List.replicate (b-l.length) 0))/\Only n w N:=by
 obtain⟨L,f,q,_,_,E⟩:=h.open_;cases q;obtain⟨B,o,rfl,F,M⟩:=E g;have X:(wv l).toList.length=l.length:=by simp[wv]
 have G := run_copy_row Tryz.prog w 107 107 3 335 n 0 b b ⟨B, o, none⟩ l.length c (wv (List.replicate b 0)) 335 (wv l).toList Tryz.underlying107 ZbM J (by rw [X]; exact (Nat.min_eq_left K).symm)
  (λj v I=>by
   have m:j<l.length:=by have:=(List.getElem?_eq_some_iff.1 I).1;omega
   rw[Xf,M j m];rw[Array.getElem?_toList,Dr m]at I;exact I) (by rw[X,A3c];simp;omega) (λv q=>by simp[wv]at q;obtain⟨x,_,rfl⟩:=q;rfl)
 rw[X]at G;refine⟨_,G,?_,⟨rfl,rfl,rfl,by simp[World.setRow],λk _ C=>setRow_other w n k _ C⟩⟩
 have e:((wv (List.replicate b 0)).toList.take 0++(wv l).toList++(wv (List.replicate b 0)).toList.drop (0+l.length)).toArray=wv (l++List.replicate (b-l.length) 0):=by
  simp[wv]
 rw[e];exact setRow_heap w n _ _ 335 _ J
def DvRel(w wr:World)(j A:Nat)(C v U Q:List Nat)(m n k:Nat):Prop:=
 U.length=m+1/\BD U/\Blk wr j 335 (wv U)/\Q.length=m-n+1/\BD Q/\Blk wr A 335 (wv Q) /\
 val (C.drop k)=val (Q.drop k)*val v+val (U.drop k)/\U.take k=C.take k/\val (U.drop k)<val v/\Below j w wr
theorem DvRel.window{m A k:Nat}(h:DvRel w p n b l f vo vV m A (k+1))(E:k+A<=m)(a:f.length=A)(J:BD f) :
  ∃x post,x.length=A+1/\BD x/\Win p n (vo.take k) x post/\val x<BB*val f/\val post=0/\vo=vo.take k++x++post/\val x=vo.getD k 0+BB*val (vo.drop (k+1))/\(vo.take k).length=k:=by
 obtain⟨B,C,L,V,F,z,u,G,Q,I⟩:=h
 have O:vo=vo.take k++(vo.drop k).take (A+1)++vo.drop (k+(A+1)):=by
  exact ZiC
 have R:val f<BB^A:=by
  have:=Dw J;rwa [a]at this
 have c:=Ds (l:=vo) (k:=k) ZbK;have v:=Hg vo k (A+1) ZbK;have S:=AI C k
 have N:val (vo.drop k)<BB*val f:=by
  have:BB*(val (vo.drop (k+1))+1)<=BB*val f:=Nat.mul_le_mul_left _ Q;rw[Nat.mul_add]at this;omega
 have K:val (vo.drop (k+(A+1)))=0:=by
  rcases Nat.eq_zero_or_pos (val (vo.drop (k+(A+1))))with h | h
  .exact h
  .exfalso
   have t:BB^(A+1)*1<=BB^(A+1)*val (vo.drop (k+(A+1))):=Nat.mul_le_mul_left _ h;have M:BB*val f<=BB*BB^A:=Nat.mul_le_mul_left _ (Nat.le_of_lt R);have H:BB^(A+1)=BB*BB^A:=by rw[Nat.pow_succ,Nat.mul_comm]
   omega
 rw[K,Nat.mul_zero,Nat.add_zero]at v;refine⟨(vo.drop k).take (A+1),vo.drop (k+(A+1)),by simp;omega,CM (Pb C k) _,?_,by rw[<-v];exact N,K,O,by rw[<-v];exact c,by simp;omega⟩;unfold Win;rw[<-O];exact L
theorem DvRel.step{Y v U Q x a post:List Nat}{m A k q:Nat}(h:DvRel w p n b Y v U Q m A (k+1))(E:k+A<=m)(o:Y.length=m+1)(F:x.length=A+1)(P:U=U.take k++x++post)(f:(U.take k).length=k)(j:val post=0)(t:val x=U.getD k 0+BB*val (U.drop (k+1)))
  (l:a.length=A+1) (H:BD a) (N:Win uz n (U.take k) a post) (d:Only n p uz) (K:q<BB) (Hv:val a+q*val v=val x) (G:val a<val v) (r:n<b) {e:Int} (X:e=(q:Nat)) :
  DvRel w (uz.setCell ⟨b,k,none⟩ (.int .u32 e)) n b Y v (U.take k++a++post) (Q.set k q) m A k:=by
 obtain⟨B,C,L,V,I,z,u,S,R,W⟩:=h;have sU:BD (U.take k):=CM C k;have sp:BD post:=λy O=>C y (by rw[P];simp[O]);have s:k<U.length:=by omega
 have T:Blk uz b 335 (wv Q):=(d.block b (Blk.lt z) ZbK).trans z
 have Z:(U.take k++a++post).drop k=a++post:=by
  exact ZgI
 have J:(U.take k++a++post).take k=U.take k:=by
  exact ZgD
 have xb:Y.take k=U.take k:=by
  have:(U.take (k+1)).take k=(Y.take (k+1)).take k:=by rw[S]
  exact ZgY
 have xa:Y.getD k 0=U.getD k 0:=by
  have:(U.take (k+1)).getD k 0=(Y.take (k+1)).getD k 0:=by rw[S]
  exact ZgE
 refine⟨?_,?_,?_,by simpa using V,CQ I k K,?_,?_,?_,?_,?_⟩
 .have c:(U.take k++x++post).length=m+1:=by rw [<-P];exact B
  simp only[List.length_append]at c ⊢;omega
 .intro y O
  rcases List.mem_append.1 O with O | O
  .rcases List.mem_append.1 O with O | O
   .exact sU y O
   .exact H y O
  .exact sp y O
 .exact Blk.far N ZcD _
 .rw [X,<-If];exact T.set k _
 .rw [Z, Gs j, Ds (l:=Y) ZbK, Ds (l:=Q.set k q) (by rw [List.length_set]; omega), JL, BX ZbK, u, xa]
  have:BB*(val (Q.drop (k+1))*val v+val (U.drop (k+1)))=BB*val (Q.drop (k+1))*val v+BB*val (U.drop (k+1)):=by rw[Nat.mul_add,Nat.mul_assoc]
  rw[this,Nat.add_mul];omega
 .rw [J,xb]
 .rw [Z,Gs j];exact G
 .have g:Below n w uz:=⟨d.os.trans W.os, d.tape.trans W.tape, d.output.trans W.output, Nat.le_trans W.size d.size, λi M=>(d.block i (by have:=Blk.lt L; omega) ZbK).trans (W.block i M)⟩
  exact Below.setCell g ZcD _
theorem Wy(K:(Aq n).length=b+1)(J:(Aq n).getD b 0=T)(g:0<T)(l:m=BB/(T+1)) :
  0<m/\m<BB/\(Aq (n*m)).length=b+1/\2147483648<=(Aq (n*m)).getD b 0:=by
 have O:T<BB:=by rw[<-J];exact AI (BR n) b
 have W:(T+1)*m<=BB:=by rw[l];exact Nat.mul_div_le BB (T+1)
 have r:0<m:=by rw[l];exact Nat.div_pos ZbK ZbK
 have y:m<BB:=by
  have:2*m<=(T+1)*m:=Nat.mul_le_mul_right _ ZbK;have:=Cv;omega
 have X:2147483648<=T*m:=by
  have C:BB<(T+1)*(m+1):=by rw[l];exact Nat.lt_mul_div_succ BB ZbK
  rw[Nat.add_mul,Nat.mul_add,Nat.mul_one,Nat.one_mul]at C;rw[Br]at *;obtain⟨a,rfl⟩:∃a,T=a+1:=⟨T-1,by omega⟩;obtain⟨A,F⟩:∃A,m=A+1:=⟨m-1,by omega⟩;have e:(a+1)*m=a*A+a+A+1:=by rw[F,Nat.add_mul,Nat.mul_add];omega
  omega
 have N:=Dz K;rw[Aw,J]at N
 have Q:val ((Aq n).take b)<BB^b:=by
  have:=Dw (CM (BR n) b);exact ZiA
 have v:n*m<BB^(b+1):=by
  have L:n+1<=BB^b*(T+1):=Zhm
  have V:(n+1)*m<=BB^b*(T+1)*m:=Nat.mul_le_mul_right _ L;have I:BB^b*(T+1)*m<=BB^b*BB:=by rw[Nat.mul_assoc];exact Nat.mul_le_mul_left _ W
  rw[Nat.pow_succ];rw[Nat.add_mul]at V;omega
 have P:BB^b*2147483648<=n*m:=by
  have L:BB^b*T<=n:=by omega
  have V:BB^b*T*m<=n*m:=Nat.mul_le_mul_right _ L;have I:BB^b*2147483648<=BB^b*(T*m):=Nat.mul_le_mul_left _ X;rw[Nat.mul_assoc]at V;omega
 generalize n*m=z at *
 have M:(Aq z).length=b+1:=by
  have B:=Dw (BR z);rw[Aw]at B
  have C:b<(Aq z).length:=by
   rcases Nat.lt_or_ge b (Aq z).length with h | h
   .exact h
   .have L:BB^(Aq z).length<=BB^b:=Nat.pow_le_pow_right Cv h
    have V:BB^b*1<=BB^b*2147483648:=Nat.mul_le_mul_left _ ZbK;omega
  rcases Nat.lt_or_ge (b+1) (Aq z).length with h | h
  .exfalso
   obtain⟨k,E⟩:∃k,(Aq z).length=k+1:=⟨(Aq z).length-1,by omega⟩;have e:=Dz E;rw[Aw]at e;have L:=Df E;have V:BB^k*1<=BB^k*(Aq z).getD k 0:=Nat.mul_le_mul_left _ L;have G:BB^(b+1)<=BB^k:=Nat.pow_le_pow_right Cv ZbK;omega
  .omega
 refine⟨r,y,M,?_⟩;have e:=Dz M;rw[Aw]at e
 have d:val ((Aq z).take b)<BB^b:=by
  have:=Dw (CM (BR z) b);exact ZiA
 have u:BB^b*2147483648<BB^b*((Aq z).getD b 0+1):=Zhm
 have:=Nat.lt_of_mul_lt_mul_left u;omega
theorem A0b{a b D q r:Nat}(f:0<D)(F:0<b)(h:a*D=q*(b*D)+r)(C:r<b*D):a/b=q/\r/D=a%b:=by
 have A:(a*D)/(b*D)=q:=by
  rw[h,Nat.mul_comm q,Nat.mul_add_div (Nat.mul_pos F f),Nat.div_eq_of_lt C,Nat.add_zero]
 have B:(a*D)%(b*D)=r:=by
  exact ZiD
 rw[Nat.mul_div_mul_right _ _ f]at A;rw[Nat.mul_mod_mul_right]at B;refine⟨A,?_⟩;rw[<-B,Nat.mul_div_cancel _ f]
theorem SF(E:(Aq n).length=T)(O:(Aq b).length=m+1)(f:m+1<=T)(s:l.length=T+1)(F:val l=n*a)(G:0<a):val (l.drop (T-(m+1)+1))<b*a:=by
 have A:n<BB^T:=by have:=Dw (BR n);rwa [Aw,E]at this
 have B:BB^m<=b:=by
  have e:=Dz O;rw[Aw]at e;have:=Df O;have L:BB^m*1<=BB^m*(Aq b).getD m 0:=Nat.mul_le_mul_left _ this;omega
 have c:T-(m+1)+1=T-m:=by omega
 rw[c]
 have L:val l=val (l.take (T-m))+BB^(T-m)*val (l.drop (T-m)):=by
  have:=Hh (l.take (T-m)) (l.drop (T-m));exact ZgO
 have V:n*a<BB^T*a:=Nat.mul_lt_mul_of_pos_right A G
 have C:BB^T*a=BB^(T-m)*(BB^m*a):=by
  rw[<-Nat.mul_assoc,<-Nat.pow_add,show T-m+m=T by omega]
 have z:BB^(T-m)*val (l.drop (T-m))<BB^(T-m)*(BB^m*a):=by omega
 have d:=Nat.lt_of_mul_lt_mul_left z;have u:BB^m*a<=b*a:=Nat.mul_le_mul_right _ B;omega
theorem Wz(E:(Aq n).length=b)(l:T<BB):(Aq (n*T)).length<=b+1:=by
 have A:n<BB^b:=by have:=Dw (BR n);rwa [Aw,E]at this
 have B:n*T<BB^(b+1):=by
  rw[Nat.pow_succ];rcases Nat.eq_zero_or_pos T with h | h
  .rw [h,Nat.mul_zero];exact Nat.mul_pos (Nat.pow_pos Cv) Cv
  .exact Nat.lt_of_lt_of_le (Nat.mul_lt_mul_of_pos_right A h) (Nat.mul_le_mul_left _ (Nat.le_of_lt l))
 generalize n*T=z at *;rcases Nat.lt_or_ge (b+1) (Aq z).length with h | h
 .exfalso
  obtain⟨k,C⟩:∃k,(Aq z).length=k+1:=⟨(Aq z).length-1,by omega⟩;have e:=Dz C;rw[Aw]at e;have L:=Df C;have V:BB^k*1<=BB^k*(Aq z).getD k 0:=Nat.mul_le_mul_left _ L;have m:BB^(b+1)<=BB^k:=Nat.pow_le_pow_right Cv ZbK;omega
 .exact h
theorem Zn(n:Nat):val (List.replicate n 0)=0:=by
 induction n with
 |zero=>rfl
 |succ n q=>simp[List.replicate_succ,val,q]
theorem Words.cellAt{b o n c:Nat}(h:Words w (.slice (some ⟨b,o,none⟩) n c) l)(M:a<l.length):w.cell? ⟨b,o+a,none⟩=some (.int .u32 (l.getD a 0:Nat)):=by
 obtain⟨A,f,q,_,_,E⟩:=h.open_;cases q;obtain⟨r,B,e,_,J⟩:=E ZbK;cases e;exact J a M
theorem A0t(b l C n Z c P:Nat)(pre post u v:List Nat)(w:World)(R:pre.length=P)(B:Win w b pre u post)(L:u.length=n+1)(q:v.length=n)(E:2<=n)(A:n<=4398046511104)(F:BD u)(G:BD v)
  (W:∀i,i<n->w.cell? ⟨l,C+i,none⟩=some (.int .u32 (v.getD i 0:Nat))) (J:n+1<=Z) (I:n<=c) (t:2147483648<=v.getD (n-1) 0) (Q:val u<BB*val v) :
  Calls Tryz.prog 311 #[.slice (some ⟨b,P,none⟩) (n+1) Z,.slice (some ⟨l,C,none⟩) n c] w (Vv w u v):=by
 subst R;exact Xk b l C n Z c pre post u v w B L q E A F G W J I t Q
theorem Vw(j B:Value)(x y:Nat)(w:World)(s:Words w j (Aq x))(F:Words w B (Aq y))(Q:x<y) :
  Calls Tryz.prog 282 #[j,B] w (JT x y w):=by
 obtain⟨A,n,c,rfl⟩:=s.form;replace s:=Ae s;replace F:=Ae F;have r:EC x y<0:=by unfold EC;rw[if_pos Q];omega
 replace Q:=Ae Q;go_enter Tryz.func282,Tryz.ntmps282;go_wp2_with fail;refine(Gp _ _ _ _ _ s.out F.out).mono ?_;rintro e u ⟨rfl,Z⟩;replace s:=Ae (s.out.ext Z);replace Z:=Ae Z;go_wp2;go_ret2;refine⟨_,_,_,_,_,_,rfl,?_,?_,Z.out⟩
 .exact ZhL
 .rw [Nat.mod_eq_of_lt Q.out];exact s.out
theorem Tu(j B:Value)(x y:Nat)(w:World)(s:Words w j (Aq x))(F:Words w B (Aq y))(i:(Aq x).length<=4398046511104)(p:y<=x)(A:(Aq y).length=1) :
  Calls Tryz.prog 282 #[j,B] w (JT x y w):=by
 have r:¬EC x y<0:=by unfold EC;rw[if_neg ZbK];split<;>omega
 obtain⟨t,J⟩:∃t,Aq y=[t]:=by
  match Z:Aq y,A with
  |[t],_=>exact⟨t,rfl⟩
 have h:Hid (y=t):=by
  show y=t;rw[<-Aw y,J];simp[val]
 have X:t<4294967296:=by
  have:=BR y t (by rw[J];simp);rwa [Br]at this
 have W:0<t:=by
  have:=Df (y:=y) (n:=0) A;rw[J]at this;exact Ziz
 replace i:=Ae i;replace p:=Ae p;clear A;replace s:=Ae s;replace F:=Ae F;replace J:=Ae J;go_enter Tryz.func282,Tryz.ntmps282;go_wp2_with fail;refine(Gp _ _ _ _ _ s.out F.out).mono ?_;rintro e u ⟨rfl,E⟩;have C:=Ae (s.out.ext E);have c:=F.out.ext E;replace E:=Ae E;rw[J.out]at c;obtain⟨q,a,rfl,I,g,K⟩:=c.open_;obtain⟨n,R,rfl,Q,M⟩:=K ZbV;replace M:u.cell? ⟨n,R,none⟩=some (.int .u32 (t:Nat)):=M 0 ZbV;clear K c;go_wp2_with fail;refine(LV _ _ t _ C.out i.out W X).mono ?_;rintro e O ⟨m,rfl,k,G⟩;obtain⟨b,N,d,rfl⟩:=k.form;replace k:=Ae k;replace G:=Ae (E.out.trans G);have Y:val (Aq x)%t<18446744073709551616:=by have:=Nat.mod_lt (val (Aq x)) W;omega
 replace Y:=Ae Y;clear M;go_wp2_with fail;refine(Hz _ _ Y.out).mono ?_;rintro e S ⟨U,rfl,V,L⟩;obtain⟨f,l,v,rfl⟩:=V.form;replace k:=Ae (k.out.ext L);replace V:=Ae V;replace L:=Ae (G.out.trans L);go_wp2;go_ret2;refine⟨_,_,_,_,_,_,rfl,?_,?_,L.out⟩
 .have:=k.out;rw[Aw]at this;rw[h.out];exact this
 .have:=V.out;rw[Aw]at this;rw[h.out];exact this
set_option maxRecDepth 1000000 in
theorem Tv(va vb:Value)(x y:Nat)(w:World)(s:Words w va (Aq x))(F:Words w vb (Aq y))(Y:(Aq x).length<=4398046511103)(xi:y<=x)(B:2<=(Aq y).length) :
  Calls Tryz.prog 282 #[va,vb] w (JT x y w):=by
 have yn:¬EC x y<0:=by unfold EC;rw[if_neg ZbK];split<;>omega
 have xa:=BH xi;obtain⟨n,f⟩:∃n,(Aq y).length=n+1:=⟨(Aq y).length-1,by omega⟩;obtain⟨m,xb⟩:∃m,(Aq x).length=m:=⟨_,rfl⟩;have xO:=Df f;have xP:=AI (BR y) n;generalize J:(Aq y).getD n 0=t at *;unfold BB at xP;obtain⟨D,hD⟩:∃D,D=BB/(t+1):=⟨_,rfl⟩;obtain⟨yg,yk,xn,xA⟩:=Wy f J xO hD;have ze:(4294967296:Int)/((t:Int)+1)=(D:Int):=by rw[hD,Br];rfl
 have yj:=Wz xb yk
 have xJ:0<y:=by
  rcases Nat.eq_zero_or_pos y with h | h
  .rw [h,BA]at f;simp at f
  .exact h
 have yu:0<(Aq (x*D)).length:=by
  rcases Nat.eq_zero_or_pos (Aq (x*D)).length with h | h
  .have:=Ba.1 h
   have:=Nat.mul_pos (show 0<x by omega) yg;omega
  .exact h
 rw[xb]at Y xa;rw[f]at xa B;have xz:1<=n:=by omega
 clear B;unfold BB at yk
 have yF:Hid ((Aq D).length<=4398046511104):=by
  have A:=Dw (BR D);rw[Aw]at A;show _<=_;rcases Nat.lt_or_ge 2 (Aq D).length with h | h
  .exfalso
   obtain⟨k,C⟩:∃k,(Aq D).length=k+1:=⟨(Aq D).length-1,by omega⟩;have e:=Dz C;rw[Aw]at e;have L:=Df C;have V:BB^k*1<=BB^k*(Aq D).getD k 0:=Nat.mul_le_mul_left _ L;have G:BB<=BB^k:=by have:=Nat.pow_le_pow_right Cv (show 1<=k by omega);rwa [Nat.pow_one]at this
   have N:=Br;omega
  .omega
 replace J:=Ae J;replace f:=Ae f;replace xb:=Ae xb;replace xi:=Ae xi;replace hD:=Ae hD;replace xn:=Ae xn;replace xA:=Ae xA;replace yj:=Ae yj;replace yu:=Ae yu;replace xJ:=Ae xJ;have yI:=λW=>Cj (m+1) ZbK .i64 .i64 W;have xu:=λW=>Cj (m-(n+1)+1) ZbK .i64 .i64 W;have xH:((m-(n+1)+1:Nat):Int)=(m:Int)-((n:Int)+1)+1:=by omega
 rw[xH]at xu;simp only[Int.natCast_add,Int.natCast_one]at yI;clear xH;replace s:=Ae s;replace F:=Ae F;go_enter Tryz.func282,Tryz.ntmps282;go_wp2_with fail;refine(Gp _ _ _ _ _ s.out F.out).mono ?_;rintro e S ⟨rfl,p⟩;have o:=s.out.ext p;have P:=F.out.ext p;replace p:=Ae p;clear s F;obtain⟨A1,R,rfl,xl,yS,xq⟩:=o.open_;clear xq;obtain⟨A2,H,rfl,xj,yp,xr⟩:=P.open_;obtain⟨b2,o2,rfl,xf,xw⟩:=xr (by rw[f.out];omega);replace xw:S.cell? ⟨b2,o2+n,none⟩=some (.int .u32 (t:Nat)):=by have:=xw n (by rw[f.out];omega);rw[J.out]at this;exact this
 clear xr;rw[f.out]at xj P ⊢;rw[xb.out]at xl o ⊢;replace o:=Ae o;replace P:=Ae P;have yT:(((n+1:Nat):Int)==1)=false:=Zhz
 go_wp2_with fail;refine(Hz D _ ZbK).mono ?_;rintro e r ⟨vd,rfl,xK,g⟩;replace o:=Ae (o.out.ext g);replace P:=Ae (P.out.ext g);replace g:=Ae (p.out.trans g);replace xK:=Ae xK;clear p xw;go_wp2_with fail;refine(IU _ _ _ _ _ P.out xK.out (by rw[f.out];omega) yF.out).mono ?_;rintro e w3 ⟨vv,rfl,yi,xc⟩;rw[Aw,Aw]at yi;replace o:=Ae (o.out.ext xc);replace xc:=Ae (g.out.trans xc);clear g xK P;obtain⟨Av,cv,rfl,xC,zd,ya⟩:=yi.open_;obtain⟨bv,ov,rfl,yd,zb⟩:=ya ZdT;rw[xn.out]at xC yi ⊢;replace yi:=Ae yi;clear ya;have sv:=Ae (BR (y*D));have xU:Hid (val (Aq (y*D))=y*D):=Aw _;generalize Aq (y*D)=v at *;have yf:Hid (Blk (w3.alloc (.cells (wv (List.replicate (m+1) 0)) 335)) w3.heap.size 335 (wv (List.replicate (m+1) 0))):=Blk.new _ _ _;have xD:Hid (Ext w3 (w3.alloc (.cells (wv (List.replicate (m+1) 0)) 335))):=(Ext.refl _).alloc _;go_wp2_with fail;generalize (w3.alloc (.cells (wv (List.replicate (m+1) 0)) 335))=w4 at *;refine(Hz D _ ZbK).mono ?_;rintro e w5 ⟨vd,rfl,xK,xs⟩;replace o:=Ae (o.out.ext (xD.out.trans xs));replace yf:=Ae (yf.out.ext xs);replace xD:=Ae (xD.out.trans xs);replace xK:=Ae xK;clear xs;go_wp2_with fail;refine(IU _ _ _ _ _ o.out xK.out (by rw[xb.out];omega) yF.out).mono ?_;rintro e w6 ⟨vu,rfl,xL,yy⟩;rw[Aw,Aw]at xL;replace yf:=Ae (yf.out.ext yy);replace xD:=Ae (xD.out.trans yy);clear yy xK o;obtain⟨Au,cu,rfl,xT,ye,_⟩:=xL.open_;have yO:=BR (x*D);have yM:val (Aq (x*D))=x*D:=Aw _;generalize Aq (x*D)=u0 at *;obtain⟨w7,ys,xy,yh⟩:=Pg yf.out xL yu.out yj.out;obtain⟨ul,yq⟩:∃ul,ul=u0++List.replicate (m+1-u0.length) 0:=⟨_,rfl⟩;have yt:Hid (ul.length=m+1):=by have:=yj.out;rw[yq,List.length_append,List.length_replicate];show _=_;omega
 have yr:Hid (BD ul):=λz O=>by
  rw[yq]at O;rcases List.mem_append.1 O with h | h
  .exact yO z h
  .exact Cc _ z h
 have yN:Hid (val ul=x*D):=by rw[yq,Gs (Zn _),yM];rfl
 rw[<-yq]at xy;have ym:Hid (Below w3.heap.size w3 w7):=⟨yh.os.trans xD.out.os,yh.tape.trans xD.out.tape,yh.output.trans xD.out.output,Nat.le_trans xD.out.size yh.size,λi M=>(yh.block i (Nat.lt_of_lt_of_le M xD.out.size) ZbK).trans (xD.out.block M)⟩;have zf:=Ae yj.out;replace ys:=Ae ys;replace xy:=Ae xy;clear yh yf xD xL yO yM yu yj yq;have zc:=xc.out.size;generalize xI:w3.heap.size=gu at *;replace xI:=Ae xI;go_upto_region 11 with(refine OM rfl _ _ _ rfl _ _ rfl rfl ys.out ?_)
 clear ys;have yP:Hid (Ext w3 w7):=by rw[<-xI.out]at ym;exact ym.out
 have yE:Hid (Blk (w7.alloc (.cells (wv (List.replicate (m-(n+1)+1) 0)) 335)) gu 335 (wv ul)):=xy.out.alloc _;have yD:Hid (Blk (w7.alloc (.cells (wv (List.replicate (m-(n+1)+1) 0)) 335)) w7.heap.size 335 (wv (List.replicate (m-(n+1)+1) 0))):=Blk.new _ _ _;have yG:Hid (Below gu w3 (w7.alloc (.cells (wv (List.replicate (m-(n+1)+1) 0)) 335))):=Below.alloc ym.out (by have:=ym.out.size;have:=xI.out;omega) _;have xN:gu<w7.heap.size:=Blk.lt xy.out;have yJ:=Ae (SF xb.out f.out xa yt.out yN.out yg);go_upto_region 13 with(fail)
 generalize (w7.alloc (.cells (wv (List.replicate (m-(n+1)+1) 0)) 335))=w8 at *;generalize w7.heap.size=gq at *;clear ym xy xu yI yP;go_loopw [13] (λi wr=>∃(k:Nat) (U Q:List Nat),k<=m-(n+1)+1/\i=.int .i64 ((k:Int)-1)/\Hid (DvRel w3 wr gu gq ul v U Q m (n+1) k)) (λi _=>(intOf i+1).toNat)
 case atStart=>
  refine⟨m-(n+1)+1,ul,List.replicate (m-(n+1)+1) 0,Nat.le_refl _,by congr 1;omega,yt.out,yr.out,yE.out,by simp,Cc _,yD.out,?_,rfl,?_,yG.out⟩
  .exact ZaD
  .rw [xU.out];exact yJ.out
 case round=>
  obtain⟨k,U,Q,C,rfl,T⟩:=hrel;clear yE yD yG yJ;by_cases xk:k=0
  .subst xk
   have xS:Hid (Words wr (.slice (some ⟨gq,0,none⟩) (m-(n+1)+1) (m-(n+1)+1)) Q):=by
    have:=Cn (c:=m-(n+1)+1) T.out.2.2.2.2.2.1 T.out.2.2.2.2.1 Zdx ZbK;rw[T.out.2.2.2.1]at this;exact this
   have xL:Hid (Words wr (.slice (some ⟨gu,0,none⟩) (m+1) (m+1)) U):=by
    exact ZhH
   have yR:Hid ((Aq (val U)).length<=4398046511104):=by
    have A:=GK U;rw[AU T.out.2.1,T.out.1]at A;show _<=_;omega
   have xd:Hid (x/y=val Q/\val U/D=x%y):=by
    have A:=T.out.2.2.2.2.2.2.1;have B:=T.out.2.2.2.2.2.2.2.2.1;simp only[List.drop_zero]at A B;rw[yN.out,xU.out]at A;rw[xU.out]at B;exact A0b yg xJ.out A B
   have xt:Hid (Ext w wr):=xc.out.trans (by have:=T.out.2.2.2.2.2.2.2.2.2;rw[<-xI.out]at this;exact this);go_wp2_with fail;refine(EW _ _ _ xL.out).mono ?_;rintro e w9 ⟨v9,rfl,xR,yb⟩;rw[AU T.out.2.1]at xR;replace xS:=Ae (xS.out.ext yb);replace xt:=Ae (xt.out.trans yb);replace xR:=Ae xR;clear yb xL;go_wp2_with fail;refine(LV _ _ D _ xR.out yR.out yg yk).mono ?_;rintro e yv ⟨v10,rfl,xB,yw⟩;rw[Aw,xd.out.2]at xB;obtain⟨yV,zg,yX,rfl⟩:=xB.form;replace xS:=Ae (xS.out.ext yw);replace xt:=Ae (xt.out.trans yw);replace xB:=Ae xB;clear yw xR;go_wp2_with fail;refine(EW _ _ _ xS.out).mono ?_;rintro e yC ⟨v11,rfl,xQ,yx⟩;rw[AU T.out.2.2.2.2.1,<-xd.out.1]at xQ;obtain⟨yW,zh,yY,rfl⟩:=xQ.form;replace xB:=Ae (xB.out.ext yx);replace xt:=Ae (xt.out.trans yx);replace xQ:=Ae xQ;clear yx xS;go_wp2;go_ret2;exact⟨_,_,_,_,_,_,rfl,xQ.out,xB.out,xt.out⟩
  .obtain ⟨k, rfl⟩:∃q, k=q+1:=⟨k-1, by omega⟩
   have xg:((k+1:Nat):Int)-1=k:=by omega
   rw[xg];clear xg;obtain⟨X,post,xq,xr,xV,xW,xX,xY,xZ,xE⟩:=T.out.window ZbK xn.out sv.out;replace xq:=Ae xq;replace xr:=Ae xr;replace xV:=Ae xV;replace xW:=Ae xW;replace xX:=Ae xX;replace xY:=Ae xY;replace xZ:=Ae xZ;replace xE:=Ae xE
   have xG:Hid (∀wz,Only gu wr wz->Words wz (.slice (some ⟨bv,ov,none⟩) (n+1) cv) v):=Ae λwz hO=>yi.out.old λi M=>by
    have yQ:i<gu:=by rw[<-xI.out];exact M
    exact(hO.block i (by have:=Blk.lt T.out.2.2.1;omega) ZbK).trans (T.out.2.2.2.2.2.2.2.2.2.block i yQ)
   have xv:Hid (∀i,i<n+1->wr.cell? ⟨bv,ov+i,none⟩=some (.int .u32 (v.getD i 0:Nat))):=Ae λi M=>(xG.out wr (Only.refl _ _)).cellAt (by rw[xn.out];exact M);go_wp2_with fail;rw[show k+(n+1)+1-k=n+1+1 by omega];refine(A0t gu bv ov (n+1) _ _ k (U.take k) post X v wr xE.out xV.out xq.out xn.out ZbK ZbK xr.out sv.out xv.out ZbK xC xA.out xW.out).mono ?_;rintro e w9 ⟨q,rfl,K,yA,yB,yb⟩;have xo:q<4294967296:=by rwa [Br]at K
   have yz:Hid (Only gu wr w9):=(Only.refl _ _).ext yb;have xR:=Ae (xV.out.ext yb);replace yA:=Ae yA;replace yB:=Ae yB;replace K:=Ae K;clear xv yb;go_wp2_with fail;refine(Vs gu (n+1+1) _ _ (U.take k) post X v q k w9 xE.out xR.out xq.out ZdT ZbK xr.out sv.out (λwz hO=>xG.out wz (yz.out.trans hO)) ZbK K.out).mono ?_;rintro e yv ⟨X1,rfl,j,b,xB,yc,xp⟩;replace yc:=Ae (yz.out.trans yc);rw[xq.out]at j xp;clear yz xR;have yU:(q:Int)%4294967296=(q:Int):=by omega
   by_cases xM:val X<q*val v
   .have yo:decide (val X<q*val v)=true:=by simpa using xM
    rw[if_pos xM,Nat.mul_one]at xp
    have xg:1<=q:=by
     rcases Nat.eq_zero_or_pos q with h | h
     .rw [h,Nat.zero_mul]at xM;omega
     .exact h
    rw[yo];replace j:=Ae j;replace b:=Ae b;replace xB:=Ae xB;replace xp:=Ae xp;replace xM:=Ae xM;clear yo yU;go_wp2_with fail;refine(Tr gu (n+1+1) _ _ (U.take k) post X1 v k yv xE.out xB.out j.out ZdT ZbK b.out sv.out (λwz hO=>xG.out wz (yc.out.trans hO)) ZbK).mono ?_;rintro e yC ⟨X2,c,rfl,l,s2,xQ,yl,xx,I⟩;replace yl:=Ae (yc.out.trans yl);rw[j.out]at l xx
    have yL:Hid (val X2+(q-1)*val v=val X/\val X2<val v):=by
     have xf:=Dw s2;rw[l]at xf
     have E:(q-1)*val v+val v=q*val v:=by
      obtain⟨a,rfl⟩:∃a,q=a+1:=⟨q-1,by omega⟩;rw[Nat.add_sub_cancel,Nat.add_mul,Nat.one_mul]
     have A:=xp.out;have L:=xM.out;have V:=yB.out
     have xl:c=1:=by
      rcases Nat.eq_zero_or_pos c with h | h
      .subst h;omega
      .omega
     subst xl;rw[Nat.mul_one]at xx;exact⟨by omega,by omega⟩
    have xF:Blk yC gq 335 (wv Q):=(yl.out.block _ (Blk.lt T.out.2.2.2.2.2.1) ZbK).trans T.out.2.2.2.2.2.1;have yK:yC.cell? ⟨gq,k,none⟩=some (.int .u32 (Q.getD k 0:Nat)):=by rw[xF.cell,Dr Zdx]
    have xe:=xF.frozen k;have xh:=Ae (T.out.step ZbK yt.out xq.out xY.out xE.out xX.out xZ.out l s2 xQ yl.out (q:=q-1) ZcJ yL.out.1 yL.out.2 xN (e:=((q-1:Nat):Int)) rfl);obtain⟨Z,hZ⟩:∃Z,q=Z+1:=⟨q-1,by omega⟩;have yZ:((q:Int)-1)=(Z:Int):=by omega
    have za:(Z:Int)%4294967296=(Z:Int):=by omega
    rw[show q-1=Z by omega]at xh;clear l s2 xQ yl xx I xF;subst hZ;exact Zhv
   .have yo:decide (val X<q*val v)=false:=by simpa using xM
    rw[if_neg xM,Nat.mul_zero,Nat.add_zero]at xp;rw[yo]
    have yH:val X1<val v:=by
     have xm:0<val v:=by have:=xW.out;rcases Nat.eq_zero_or_pos (val v)with h | h;rw[h]at this;omega;exact h
     have d:val X<(val X/val v+1)*val v:=by
      rw[Nat.mul_comm];exact Nat.lt_mul_div_succ (val X) xm
     have u:(val X/val v+1)*val v<=(q+1)*val v:=Nat.mul_le_mul_right _ (by have:=yA.out;omega);rw[Nat.add_mul q,Nat.one_mul]at u;omega
    have xF:Blk yv gq 335 (wv Q):=(yc.out.block _ (Blk.lt T.out.2.2.2.2.2.1) ZbK).trans T.out.2.2.2.2.2.1;have yK:yv.cell? ⟨gq,k,none⟩=some (.int .u32 (Q.getD k 0:Nat)):=by rw[xF.cell,Dr Zdx]
    have xe:=xF.frozen k;have xh:=Ae (T.out.step ZbK yt.out xq.out xY.out xE.out xX.out xZ.out j b xB yc.out K.out xp yH xN (e:=((q:Nat):Int)) rfl);clear j b xB yc xp xF yH xM yo;exact Zhv
theorem IX(j C:Value)(x y:Nat)(w:World)(s:Words w j (Aq x))(F:Words w C (Aq y))(i:(Aq x).length<=4398046511103)(g:y≠0) :
  Calls Tryz.prog 282 #[j,C] w (JT x y w):=by
 rcases Nat.lt_or_ge x y with h | h
 .exact Vw j C x y w s F h
 .by_cases A:(Aq y).length=1
  .exact Tu j C x y w s F ZbK h A
  .have B:(Aq y).length≠0:=λe=>g (Ba.1 e)
   exact Tv j C x y w s F i h ZbK
theorem A2p(b r:Bool)(A O:Option Addr)(n c Y f:Nat)(x y:Int)(w:World)(h:IsInt w (.bool b) (.slice A n c) x)(a:IsInt w (.bool r) (.slice O Y f) y)(i:(Aq x.natAbs).length<=4398046511104)(V:(Aq y.natAbs).length<=4398046511104) :
  Calls Tryz.prog 215 #[.agg #[.bool b,.slice A n c],.agg #[.bool r,.slice O Y f]] w (Ik (x*y) w):=by
 replace h:=Ae h;replace a:=Ae a;replace i:=Ae i;replace V:=Ae V;go_enter Tryz.func215,Tryz.ntmps215;go_wp2
 refine wp_region_v ZbM [[], [(5, 0)], [], [(7, 2)], [(6, 1), (8, 3)], [], [(10, 5)], [], [(12, 7)], [(11, 6), (13, 8)], [(9, 4), (14, 9)]] [[], [0], [], [2], [0, 1, 2, 3], [], [5], [], [7], [5, 6, 7, 8], [0, 1, 2, 3, 4, 5, 6, 7, 8, 9]]
  [λv _=>v=.pointer (some ⟨w.heap.size,0,none⟩),λv _=>v=.bool b,λv _=>v=.pointer (some ⟨w.heap.size+1,0,none⟩),λv _=>v=.bool r,λv _=>v=.bool (!(b==r)),λv _=>v=.pointer (some ⟨w.heap.size,1,none⟩),λv _=>v=.slice A n c,λv _=>v=.pointer (some ⟨w.heap.size+1,1,none⟩),λv _=>v=.slice O Y f,λv N=>Words N v (Aq (val (Aq x.natAbs)*val (Aq y.natAbs))),λv N=>∃b A n c,v=.agg #[.bool b,.slice A n c]/\IsInt N (.bool b) (.slice A n c) (x*y)]
  rfl ZbM ZbM ?stab ?steps ?fin
 case stab=>exact Zio
 case steps=>
  refine .cons ?s0 (.cons ?s1 (.cons ?s2 (.cons ?s3 (.cons ?s4 (.cons ?s5 (.cons ?s6 (.cons ?s7 (.cons ?s8 (.cons ?s9 (.cons ?s10 .nil))))))))))
  case s0=>
   exact Zhk
  case s1=>
   intro N F S E s I p;exact ZgP
  case s2=>
   exact Zhl
  case s3=>
   intro N F S E s I p;exact ZgL
  case s4=>
   intro N F S E s I p;have l:F (.tmp 6)=.bool b:=E.1 _ rfl;exact ZgN
  case s5=>
   exact Zhk
  case s6=>
   intro N F S E s I p;exact ZgM
  case s7=>
   exact Zhl
  case s8=>
   intro N F S E s I p;exact ZgJ
  case s9=>
   intro N F S E s I p;have xc:F (.tmp 11)=.slice A n c:=E.1 _ rfl;have xe:F (.tmp 13)=.slice O Y f:=E.2.1 _ rfl;refine Cl ZeD (IU _ _ _ _ _ (h.out.2.ext (((((Ext.refl _).alloc _).alloc _).alloc _).drew.trans S)) (a.out.2.ext (((((Ext.refl _).alloc _).alloc _).alloc _).drew.trans S)) i.out V.out) ?_;rintro e K ⟨u,rfl,M,Q⟩;exact⟨u,rfl,Q,M⟩
  case s10=>
   intro N F S E s I p;have e9:F (.tmp 9)=.bool (!(b==r)):=E.1 _ rfl;have xf:=E.2.1 _ rfl;refine Cl ZeJ (Hf (!(b==r)) _ _ _ xf) ?_;exact Zgb
 case fin=>
  intro g N S hF;obtain⟨k,H,j,P,G,o⟩:=hF 10 _ rfl;simp only[List.length_cons,List.length_nil,Nat.reduceAdd,List.drop_succ_cons,List.drop_zero,List.take_succ_cons,List.take_zero,EG,Act.put,List.setIfInBounds_toArray,List.set_cons_succ,List.set_cons_zero,G];clear hF G;replace o:=Ae o;obtain⟨R,d⟩:=S.cells;replace S:=Ae S;go_wp2;refine bodyPost_ret (v:=.agg #[.bool k,.slice H j P]) (by simp[results,Tryz.results215,go_sem,R]) rfl ⟨_,_,_,_,rfl,?_,?_⟩
  .exact Zar
  .exact Zip
theorem A2o(b:Bool)(A:Option Addr)(n c:Nat)(z:Int)(w:World)(h:IsInt w (.bool b) (.slice A n c) z) :
  Calls Tryz.prog 279 #[.agg #[.bool b,.slice A n c]] w (Ik (-z) w):=by
 have Z:=Ae h.neg_eq;replace h:=Ae h;go_enter Tryz.func279,Tryz.ntmps279;go_wp2_with fail;refine(Hf (!b) _ _ _ (h.out.2.ext (((Ext.refl _).alloc _).alloc _))).mono ?_;rintro e F ⟨G,q,O,r,rfl,o,B⟩;rw[Aw,Z.out]at o;replace o:=Ae o;obtain⟨C,E⟩:=B.cells;replace B:=Ae B;go_wp2;refine bodyPost_ret (v:=.agg #[.bool G,.slice q O r]) (by simp[results,Tryz.results279,go_sem,C]) rfl ⟨_,_,_,_,rfl,?_,?_⟩
 .have J:Ty F (w.heap.size+1) 109:=(EB _ _ ZbV).ext B.out
  exact Zin
 .exact ((((Ext.refl _).alloc _).alloc _).trans B.out |>.set Zcz _).set Zcz _
theorem A0n(b:Bool)(A:Option Addr)(n c:Nat)(z:Int)(w:World)(h:IsInt w (.bool b) (.slice A n c) z) :
  Calls Tryz.prog 238 #[.agg #[.bool b,.slice A n c]] w λe N=>e=.returned (.int .i64 z.sign)/\Ext w N:=by
 obtain⟨B,C⟩:=h;have v:=C.len;clear C;injection B with B
 cases b with
 |true=>
  have E:z<0:=Zih
  clear B v;go_enter Tryz.func238,Tryz.ntmps238;go_wp2;go_ret;exact⟨by rw[Int.sign_eq_neg_one_of_neg E];rfl,(Ext.refl _).alloc _⟩
 |false=>
  have E:0<=z:=by
   have:¬z<0:=Zih
   omega
  clear B;by_cases g:z=0
  .subst g
   obtain rfl:n=0:=by rw[v];show(Aq 0).length=0;rw[BA];rfl
   clear v;go_enter Tryz.func238,Tryz.ntmps238;go_wp2;go_ret;exact⟨rfl,(Ext.refl _).alloc _⟩
  .have F:n≠0:=by
    rw[v];intro e;have:=Ba.1 e;omega
   have f:Hid (z.sign=1):=Ae (Int.sign_eq_one_of_pos ZbK);clear v g E;have t:¬(n:Int)<1:=by omega
   have G:1<=n:=by omega
   by_cases B:n=1
   .subst B
    go_enter Tryz.func238,Tryz.ntmps238;go_wp2;go_ret;exact⟨by rw[f.out];rfl,(Ext.refl _).alloc _⟩
   .have l:1<n:=by omega
    have m:(1:Int)<n:=by omega
    go_enter Tryz.func238,Tryz.ntmps238;go_wp2;go_ret;exact⟨by rw[f.out];exact Yz (k:=.i64) (a:=min (n:Int) 1) (b:=1) ZbK,(Ext.refl _).alloc _⟩
theorem Qu(z:Int)(w:World)(g:0<=z)(t:z<18446744073709551616) :
  Calls Tryz.prog 240 #[.int .u64 z] w λe N=>∃S,e=.returned S/\Words N S (Aq z.toNat)/\Ext w N:=by
 obtain⟨m,rfl⟩:=Int.eq_ofNat_of_zero_le g;rw[Int.toNat_natCast];exact Hz m w ZbK
theorem A4g(n:Int)(w:World)(g:-9223372036854775808<=n)(A:n<=9223372036854775807) :
  Calls Tryz.prog 141 #[.int .i64 n] w λe N=>Ik n w e N:=by
 by_cases i:n<0
 .have Z:decide (n<0)=true:=by simpa using i
  go_enter Tryz.func141,Tryz.ntmps141;go_wp2_with fail;rw[show -(n+1)+1=-n by omega];refine(Qu _ _ ZbK ZbK).mono ?_;rintro e C ⟨B,rfl,v,S⟩;go_wp2_with fail;refine(Hf _ _ _ _ v).mono ?_;rintro e G ⟨U,M,L,X,rfl,E,F⟩;replace F:=S.trans F;obtain⟨I,K⟩:=F.cells;replace E:=Ae E;replace F:=Ae F;clear S v;go_wp2;refine bodyPost_ret (v:=.agg #[.bool U,.slice M L X]) ZeN rfl ⟨_,_,_,_,rfl,?_,?_⟩
  .exact Zap
  .exact Zim
 .have Z:decide (n<0)=false:=by simpa using i
  go_enter Tryz.func141,Tryz.ntmps141;go_wp2_with fail;refine(Qu _ _ ZbK ZbK).mono ?_;rintro e C ⟨B,rfl,v,S⟩;go_wp2_with fail;refine(Hf _ _ _ _ v).mono ?_;rintro e G ⟨U,M,L,X,rfl,E,F⟩;replace F:=S.trans F;obtain⟨I,K⟩:=F.cells;replace E:=Ae E;replace F:=Ae F;clear S v;go_wp2;refine bodyPost_ret (v:=.agg #[.bool U,.slice M L X]) ZeN rfl ⟨_,_,_,_,rfl,?_,?_⟩
  .exact Zaq
  .exact Zim
def A2r(l:List Nat)(w:World)(e:Ending)(N:World):Prop:=∃S,e=.returned S/\Words N S l/\Ext w N
theorem Vx(j V:Value)(x y:Nat)(w:World)(s:Words w j (Aq x))(F:Words w V (Aq y))(i:(Aq x).length<=4398046511103)(b:(Aq y).length<=4398046511103) :
  Calls Tryz.prog 283 #[j,V] w (A2r (Aq (Nat.gcd x y)) w):=by
 obtain⟨A,n,c,rfl⟩:=s.form;obtain⟨N,C,J,rfl⟩:=F.form;generalize g:Nat.gcd x y=G at *;replace g:=Ae g;replace s:=Ae s;replace F:=Ae F;replace i:=Ae i;replace b:=Ae b;go_enter Tryz.func283,Tryz.ntmps283;go_wp2;go_loopg [0,1] (y) (λk X Y wr=>A2W w G 4398046511103 k X Y wr)
 case atStart=>exact⟨_,_,_,_,_,_,_,_,rfl,rfl,s.out,F.out,g.out,rfl,i.out,b.out,Ext.refl _⟩
 case round=>
  obtain⟨p,q,H,P,Z,E,l,a,rfl,rfl,M,S,xa,rfl,U,L,u⟩:=hrel;clear s F;have xh:=M.len;have xg:=S.len;by_cases xd:q=0
  .subst xd
   obtain rfl:l=0:=by rw[xg,BA];rfl
   have B:Hid (p=G):=by show p=G;rw[<-xa];simp
   replace M:=Ae M;replace u:=Ae u;clear xh xg xa S U L;go_wp2;go_ret;exact⟨_,rfl,by rw[<-B.out];exact M.out,u.out⟩
  .have xf:0<l:=by
    rcases Nat.eq_zero_or_pos l with h | h
    .exact absurd (Ba.1 (by rw[<-xg];exact h)) xd
    .exact h
   have xe:decide ((0:Int)<l)=true:=by simp;omega
   by_cases f:Z<=2/\l<=2
   .obtain ⟨z,xb⟩:=f
    have r:decide ((Z:Int)<=2)=true:=by simp;omega
    have m:decide ((l:Int)<=2)=true:=by simp;omega
    have xl:p<18446744073709551616:=by rw[<-Zj];exact EJ ZbK
    have o:q<18446744073709551616:=by rw[<-Zj];exact EJ ZbK
    have xj:=Ae (show(Aq p).length<=2 by omega);have xk:=Ae (show(Aq q).length<=2 by omega);replace M:=Ae M;replace S:=Ae S;replace xa:=Ae xa;replace u:=Ae u;replace xh:=Ae xh;replace xg:=Ae xg;clear U L;go_wp2_with fail;refine(NL _ _ _ M.out xj.out).mono ?_;rintro e I ⟨rfl,rfl⟩;rw[Aw];go_wp2_with fail;refine(NL _ _ _ S.out xk.out).mono ?_;rintro e I ⟨rfl,rfl⟩;rw[Aw];go_wp2_with fail;refine(Vt p q _ xl o).mono ?_;rintro e I ⟨rfl,rfl⟩;rw[xa.out]
    have xm:G<18446744073709551616:=by
     rw[<-xa.out];exact Nat.lt_of_le_of_lt (Nat.gcd_le_right _ (Nat.pos_of_ne_zero xd)) o
    go_wp2_with fail;refine(Hz G _ xm).mono ?_;rintro e R ⟨v2,rfl,v,K⟩;replace v:=Ae v;replace K:=Ae (u.out.trans K);go_wp2;go_ret;exact⟨_,rfl,v.out,K.out⟩
   .have xi:Hid ((Aq (p%q)).length<=4398046511103):=Dh (Nat.le_of_lt (Nat.mod_lt p (Nat.pos_of_ne_zero xd))) L
    have Q:p%q<q:=Nat.mod_lt _ (Nat.pos_of_ne_zero xd);have t:Hid (Nat.gcd q (p%q)=G):=by rw[<-xa,Nat.gcd_comm p q,Nat.gcd_rec q p,Nat.gcd_comm];rfl
    replace M:=Ae M;replace S:=Ae S;replace xa:=Ae xa;replace u:=Ae u;replace U:=Ae U;replace L:=Ae L;replace xh:=Ae xh;replace xg:=Ae xg;replace Q:=Ae Q;by_cases z:Z<=2
    .have xb:¬l<=2:=λh=>f ⟨z,h⟩
     have r:decide ((Z:Int)<=2)=true:=by simp;omega
     have m:decide ((l:Int)<=2)=false:=by simp;omega
     replace f:=Ae f;go_wp2_with fail;refine(IX _ _ p q _ M.out S.out U.out xd).mono ?_;rintro e I ⟨A3,A4,n3,W,n4,T,rfl,xc,d,O⟩;replace S:=Ae (S.out.ext O);replace O:=Ae (u.out.trans O);replace d:=Ae d;clear M u xc;go_wp2;go_roundg (p%q)
     case measure=>exact Q.out
     case rel=>exact⟨_,_,_,_,_,_,_,_,rfl,rfl,S.out,d.out,t.out,rfl,L.out,xi.out,O.out⟩
    .have r:decide ((Z:Int)<=2)=false:=by simp; omega
     replace f:=Ae f;go_wp2_with fail;refine(IX _ _ p q _ M.out S.out U.out xd).mono ?_;rintro e I ⟨A3,A4,n3,W,n4,T,rfl,xc,d,O⟩;replace S:=Ae (S.out.ext O);replace O:=Ae (u.out.trans O);replace d:=Ae d;clear M u xc;go_wp2;go_roundg (p%q)
     case measure=>exact Q.out
     case rel=>exact⟨_,_,_,_,_,_,_,_,rfl,rfl,S.out,d.out,t.out,rfl,L.out,xi.out,O.out⟩
theorem A2q(b r:Bool)(A G:Option Addr)(n c Y f:Nat)(x y:Int)(w:World)(h:IsInt w (.bool b) (.slice A n c) x)(a:IsInt w (.bool r) (.slice G Y f) y)(i:(Aq x.natAbs).length<=4398046511103)(L:(Aq y.natAbs).length<=4398046511103) :
  Calls Tryz.prog 226 #[.agg #[.bool b,.slice A n c],.agg #[.bool r,.slice G Y f]] w (Ik (Nat.gcd x.natAbs y.natAbs) w):=by
 replace h:=Ae h;replace a:=Ae a;replace i:=Ae i;replace L:=Ae L;go_enter Tryz.func226,Tryz.ntmps226;go_wp2_with fail;refine(Vx _ _ _ _ _ (h.out.2.ext ((((Ext.refl _).alloc _).alloc _).alloc _)) (a.out.2.ext ((((Ext.refl _).alloc _).alloc _).alloc _)) i.out L.out).mono ?_;rintro e C ⟨R,rfl,v,I⟩;obtain⟨d,M,B,rfl⟩:=v.form;replace v:=Ae v;replace I:=Ae I;go_wp2_with fail;refine(Hf false _ _ _ v.out).mono ?_;rintro e F ⟨Q,q,O,S,rfl,o,E⟩;rw[Aw,show IG false (Nat.gcd x.natAbs y.natAbs)=((Nat.gcd x.natAbs y.natAbs:Nat):Int)from rfl]at o;replace E:=Ae (I.out.trans E);replace o:=Ae o;obtain⟨K,N⟩:=E.out.cells;go_wp2;refine bodyPost_ret (v:=.agg #[.bool Q,.slice q O S]) (by simp[results,Tryz.results226,go_sem,K]) rfl ⟨_,_,_,_,rfl,?_,?_⟩
 .have J:Ty F (w.heap.size+2) 109:=(EB _ _ ZbV).ext E.out
  exact Zin
 .exact (((((Ext.refl _).alloc _).alloc _).alloc _).trans E.out |>.set Zcz _).set Zcz _
def MP(x y:Int):Int:=if y<0 then -(Nat.gcd x.natAbs y.natAbs:Int)else(Nat.gcd x.natAbs y.natAbs:Int)
theorem A3I{x y:Int}(O:y≠0):MP x y≠0:=by
 have:Nat.gcd x.natAbs y.natAbs≠0:=λh=>by have:=(Nat.gcd_eq_zero_iff.1 h).2;omega
 unfold MP;split<;>omega
theorem WP{x y:Int}(O:y≠0):(Rat.divInt x y).num=x/MP x y/\((Rat.divInt x y).den:Int)=y/MP x y:=by
 unfold MP;by_cases h:y<0
 .rw [if_pos h,<-Rat.neg_divInt_neg]
  have A:=De (x:=-x) (y:=-y) ZbK;rw[Int.natAbs_neg,Int.natAbs_neg]at A;have M:((Nat.gcd x.natAbs y.natAbs:Nat):Int)∣x:=Int.ofNat_dvd_left.2 (Nat.gcd_dvd_left _ _);have t:((Nat.gcd x.natAbs y.natAbs:Nat):Int)∣y:=Int.ofNat_dvd_left.2 (Nat.gcd_dvd_right _ _);rw[A.1,A.2,Int.ediv_neg,Int.ediv_neg,Int.neg_ediv_of_dvd M,Int.neg_ediv_of_dvd t];exact⟨rfl,rfl⟩
 .rw [if_neg h]
  exact De ZbK
theorem WN(p q:Rat):p*q=Rat.divInt (p.num*q.num) ((p.den:Int)*q.den):=by
 rw[Rat.mul_def,Rat.normalize_eq_mkRat];have:((p.den:Int)*q.den)=((p.den*q.den:Nat):Int):=by simp
 rw[this];rfl
theorem A2v(b r:Bool)(A O:Option Addr)(n c Y f:Nat)(p:Rat)(w:World)(h:IsRat w (.bool b) (.slice A n c) (.bool r) (.slice O Y f) p) :
  Calls Tryz.prog 228 #[.agg #[.bool b,.slice A n c,.bool r,.slice O Y f]] w (A5Q (-p) w):=by
 have Z:Hid (Blk ((w.alloc (.cells #[.bool b,.slice A n c,.bool r,.slice O Y f] 111)).alloc (.cells #[.bool false,.slice none 0 0,.bool false,.slice none 0 0] 111)) w.heap.size 111 #[.bool b,.slice A n c,.bool r,.slice O Y f]):=(Blk.new _ _ _).alloc _;have o:Hid (Blk ((w.alloc (.cells #[.bool b,.slice A n c,.bool r,.slice O Y f] 111)).alloc (.cells #[.bool false,.slice none 0 0,.bool false,.slice none 0 0] 111)) (w.heap.size+1) 111 #[.bool false,.slice none 0 0,.bool false,.slice none 0 0]):=Eb _ _ ZbV;have l:Hid (Ext w ((w.alloc (.cells #[.bool b,.slice A n c,.bool r,.slice O Y f] 111)).alloc (.cells #[.bool false,.slice none 0 0,.bool false,.slice none 0 0] 111))):=((Ext.refl _).alloc _).alloc _;have d:=Ae (h.ext l.out);clear h;go_enter Tryz.func228,Tryz.ntmps228;go_upto_region 1 with(fail)
 generalize ((w.alloc (.cells #[.bool b,.slice A n c,.bool r,.slice O Y f] 111)).alloc (.cells #[.bool false,.slice none 0 0,.bool false,.slice none 0 0] 111))=wq at *;obtain⟨z,xc⟩:∃z,z=w.heap.size:=⟨_,rfl⟩;obtain⟨P,xd⟩:∃P,P=w.heap.size+1:=⟨_,rfl⟩;rw[<-xd]at o ⊢;rw[<-xc]at Z ⊢;have k4:w.heap.size<=P:=by omega
 clear xc xd
 refine wp_region_v ZbM [[], [(3, 0)], [(4, 1)], [], [(6, 3)], [(5, 2), (7, 4)]] [[], [0], [0, 1], [], [3], [0, 1, 2, 3, 4]]
  [λv _=>v=.pointer (some ⟨z,0,none⟩),λv _=>v=.agg #[.bool b,.slice A n c],λv N=>∃b A n c,v=.agg #[.bool b,.slice A n c]/\IsInt N (.bool b) (.slice A n c) (-p.num),λv _=>v=.pointer (some ⟨z,2,none⟩),λv _=>v=.agg #[.bool r,.slice O Y f],λv N=>∃b A n c r O Y f,v=.agg #[.bool b,.slice A n c,.bool r,.slice O Y f]/\IsRat N (.bool b) (.slice A n c) (.bool r) (.slice O Y f) (-p)]
  rfl ZbM ZbM ?stab ?steps ?fin
 case stab=>exact .cons (Stab.eq _) (.cons (Stab.eq _) (.cons (λ_ _ _ X ⟨b,A,n,c,B,C⟩=>⟨b,A,n,c,B,C.ext X⟩) (.cons (Stab.eq _) (.cons (Stab.eq _) (.cons (λ_ _ _ X ⟨b,A,n,c,r,O,Y,f,B,C⟩=>⟨b,A,n,c,r,O,Y,f,B,C.ext X⟩) .nil)))))
 case steps=>
  refine .cons ?s0 (.cons ?s1 (.cons ?s2 (.cons ?s3 (.cons ?s4 (.cons ?s5 .nil)))))
  case s0=>
   intro N G S E s I K;exact Zhd
  case s1=>
   intro N G S E s I K;have x:G (.tmp 3)=.pointer (some ⟨z,0,none⟩):=E.1 _ rfl;have m:N.cell? ⟨z,0,none⟩=some (.bool b):=S.cellv ((Z.out.cell 0));have L:N.cell? ⟨z,1,none⟩=some (.slice A n c):=S.cellv ((Z.out.cell 1));exact Ar (by simp[execOp,x,m,L,go_sem]) rfl
  case s2=>
   intro N G S E s I K;have W:G (.tmp 4)=.agg #[.bool b,.slice A n c]:=E.1 _ rfl;refine Cl (by simp[execOp,resolve,invoke,K,W,go_sem]) (A2o b A n c _ _ (d.out.1.ext ((Ext.refl _).drew.trans S))) ?_;rintro e M ⟨k,i,V,g,rfl,T,Q⟩;exact⟨_,rfl,Q,k,i,V,g,rfl,T⟩
  case s3=>
   intro N G S E s I K;exact Zhd
  case s4=>
   intro N G S E s I K;have a:G (.tmp 6)=.pointer (some ⟨z,2,none⟩):=E.1 _ rfl;have m:N.cell? ⟨z,2,none⟩=some (.bool r):=S.cellv ((Z.out.cell 2));have L:N.cell? ⟨z,3,none⟩=some (.slice O Y f):=S.cellv ((Z.out.cell 3));exact Ar (by simp[execOp,a,m,L,go_sem]) rfl
  case s5=>
   intro N G S E s I K;have f5:=E.1 _ rfl;have j:G (.tmp 7)=.agg #[.bool r,.slice O Y f]:=E.2.1 _ rfl;obtain⟨b6,A6,n6,U,R,xe⟩:=f5;exact Ar (v:=.agg #[.bool b6,.slice A6 n6 U,.bool r,.slice O Y f]) (by simp[execOp,R,j,go_sem]) ⟨b6,A6,n6,U,_,_,_,_,rfl,xe,d.out.2.ext ((Ext.refl _).drew.trans S)⟩
 case fin=>
  intro gf N S hF;obtain⟨b8,A8,n8,xa,b9,A9,n9,c9,q,xb⟩:=hF 5 _ rfl;replace S:=Ae ((Ext.refl _).drew.trans S);have H:=o.out.ext S.out;have z0:N.cell? ⟨P,0,none⟩=some (.bool false):=H.cell 0;have t:N.cell? ⟨P,1,none⟩=some (.slice none 0 0):=H.cell 1;have u:N.cell? ⟨P,2,none⟩=some (.bool false):=H.cell 2;have y:N.cell? ⟨P,3,none⟩=some (.slice none 0 0):=H.cell 3;have y0:=H.frozen 0;have y1:=H.frozen 1;have y2:=H.frozen 2;have y3:=H.frozen 3;have J:Ty N P 111:=H.ty;simp only[List.length_cons,List.length_nil,Nat.reduceAdd,List.drop_succ_cons,List.drop_zero,List.take_succ_cons,List.take_zero,EG,Act.put,List.setIfInBounds_toArray,List.set_cons_succ,List.set_cons_zero,q];replace xb:=Ae xb;replace H:=Ae H;clear hF q;go_wp2;refine bodyPost_ret (v:=.agg #[.bool b8,.slice A8 n8 xa,.bool b9,.slice A9 n9 c9]) (by simp[results,Tryz.results228,go_sem,z0,t,u,y]) rfl ⟨_,_,_,_,_,_,_,_,rfl,?_,?_⟩
  .exact xb.out.put4 (b:=P) J ZbN (.bool b8) (.slice A8 n8 xa) (.bool b9) (.slice A9 n9 c9)
  .exact (l.out.trans S.out).put4 (b:=P) ZbK (.bool b8) (.slice A8 n8 xa) (.bool b9) (.slice A9 n9 c9)
end Go.Proofs.YtcikkglcoeedlaaGreat
