/- Part 8 of the proof of claimClashes_holds. No condition. -/
import Derived.Deep.LoopGhost
import Derived.Test.YtcikkglcoeedlaaGreatCx6
import Derived.Test.YtcikkglcoeedlaaGreatCx7
set_option linter.unusedSimpArgs false
set_option linter.unusedVariables false
set_option maxRecDepth 100000
set_option maxHeartbeats 2000000
namespace Go.Proofs.YtcikkglcoeedlaaGreat
open Go.RowKit
variable{a J:Int}{l f vm vU:List Nat}{n b T m e k:Nat}{uB:Option Addr}{vV uT:Rat}{w h uA:World}
theorem Jv:∀(f x:Nat),x<2^f->x<2^(Lib.bitLenAux f x)/\(x≠0->2^(Lib.bitLenAux f x)<=2*x)
 |0,x,h=>by
  have:x=0:=by simpa using h
  subst this;exact⟨by simp[Lib.bitLenAux],λh=>absurd rfl h⟩
 |f+1,x,h=>by
  unfold Lib.bitLenAux;by_cases C:x=0
  .subst C;exact⟨by simp,λh=>absurd rfl h⟩
  .rw [if_neg C]
   obtain⟨u,A⟩:=Jv f (x/2) (by rw[Nat.pow_succ]at h;omega);have e:2^(1+Lib.bitLenAux f (x/2))=2*2^(Lib.bitLenAux f (x/2)):=by rw[Nat.pow_add]
   refine⟨by rw[e];omega,λ_=>?_⟩;rw[e];by_cases g:x/2=0
   .have M:x=1:=by omega
    subst M
    have:Lib.bitLenAux f (1/2)=0:=by
     show Lib.bitLenAux f 0=0;cases f<;>simp[Lib.bitLenAux]
    rw[this];omega
   .have:=A g;omega
theorem Za(g:0<n)(u:n<4294967296):∃s:Nat,(32:Int)-(Lib.bitLen n:Int)=s/\s<32/\2147483648<=n*2^s/\(n+1)*2^s<=4294967296:=by
 have b:=Jv 64 n Zbx;have E:Lib.bitLen n=Lib.bitLenAux 64 n:=rfl;rw[<-E]at b;generalize Lib.bitLen n=k at b;obtain⟨A,I⟩:=b;have I:=I Zbx
 have Z:k<=32:=by
  rcases Nat.lt_or_ge 32 k with h | h
  .have:2^33<=2^k:=Nat.pow_le_pow_right Zbx h
   have e:(2:Nat)^33=8589934592:=by decide
   omega
  .exact h
 have a:1<=k:=by
  rcases Nat.eq_zero_or_pos k with h | h
  .subst h;simp at A;omega
  .exact h
 refine⟨32-k,by omega,by omega,?_,?_⟩
 .have V:2^k*2^(32-k)=4294967296:=by rw [<-Nat.pow_add, show k+(32-k)=32 by omega]
  have m:2^k*2^(32-k)<=2*n*2^(32-k):=Nat.mul_le_mul_right _ I;rw[V,Nat.mul_assoc]at m;omega
 .have V:2^k*2^(32-k)=4294967296:=by rw [<-Nat.pow_add, show k+(32-k)=32 by omega]
  have m:(n+1)*2^(32-k)<=2^k*2^(32-k):=Nat.mul_le_mul_right _ A;omega
theorem Db{y n:Nat}(h:(Ao y).length=n+1):0<(Ao y).getD n 0:=by
 induction n generalizing y with
 |zero=>
  have N:y≠0:=by rintro rfl;rw[Br]at h;simp at h
  rw[Ee N]at h ⊢;have g:(Ao (y/BB)).length=0:=by simpa using h
  have u:=Bi.1 g
  have A:y<BB:=by
   rcases Nat.lt_or_ge y BB with h | h
   .exact h
   .have:=Nat.div_pos h Cp;omega
  simp[Nat.mod_eq_of_lt A];omega
 |succ n B=>
  have N:y≠0:=by rintro rfl;rw[Br]at h;simp at h
  rw[Ee N]at h ⊢;have:=B (y:=y/BB) ZcK;exact Zhq
theorem Ts{y n s t:Nat}(L:(Ao y).length=n+1)(M:(Ao y).getD n 0=t)(Y:l.length=n+2)(W:Bt l)(o:val l=2^s*y)(u:2147483648<=t*2^s)(A:(t+1)*2^s<=4294967296) :
  val (l.take (n+1))=2^s*y/\2147483648<=l.getD n 0:=by
 have E:=Ds L;rw[AB,M]at E
 have X:val ((Ao y).take n)<BB^n:=by
  have:=Dr (CI (BK y) n);exact Zhr
 have F:2^s*y<BB^(n+1):=by
  have I:y+1<=BB^n*(t+1):=ZfK
  have V:2^s*(y+1)<=2^s*(BB^n*(t+1)):=Nat.mul_le_mul_left _ I;have m:2^s*(BB^n*(t+1))=BB^n*((t+1)*2^s):=by rw[Nat.mul_left_comm,Nat.mul_comm (2^s)]
  have B:BB^n*((t+1)*2^s)<=BB^n*BB:=Nat.mul_le_mul_left _ (by rw[Bn];exact A);have e:0<2^s:=Nat.two_pow_pos s;rw[Nat.pow_succ];rw[Nat.mul_add]at V;omega
 have d:=Ds Y
 have g:l.getD (n+1) 0=0:=by
  rcases Nat.eq_zero_or_pos (l.getD (n+1) 0)with h | h
  .exact h
  .exfalso
   have:BB^(n+1)*1<=BB^(n+1)*l.getD (n+1) 0:=Nat.mul_le_mul_left _ h;omega
 rw[g,Nat.mul_zero,Nat.add_zero]at d;refine⟨by rw[<-d,o],?_⟩;have v:=AO l n;rw[<-d,o]at v;have I:BB^n*t<=y:=by omega
 have V:2^s*(BB^n*t)<=2^s*y:=Nat.mul_le_mul_left _ I;have m:2^s*(BB^n*t)=BB^n*(t*2^s):=by rw[Nat.mul_left_comm,Nat.mul_comm (2^s)]
 have B:BB^n*2147483648<=BB^n*(t*2^s):=Nat.mul_le_mul_left _ u
 have e:val (l.take n)<BB^n:=by
  have:=Dr (CI W n);exact Zhr
 have C:BB^n*2147483648<BB^n*(l.getD n 0+1):=ZfK
 have:=Nat.lt_of_mul_lt_mul_left C;omega
def DivRel(w wr:World)(e i I:Nat)(J u U Q:List Nat)(m n k:Nat):Prop:=
 U.length=m+1/\Bt U/\Blk wr e 335 (wv U)/\Q.length=m-n+1/\Bt Q/\Blk wr I 335 (wv Q)/\Blk wr i 335 (wv u) /\
 val (J.drop k)=val (Q.drop k)*val (u.take n)+val (U.drop k)/\U.take k=J.take k/\val (U.drop k)<val (u.take n)/\Ext w wr
theorem GL(U:List Nat)(k j:Nat)(h:k+j<=U.length):val (U.drop k)=val ((U.drop k).take j)+BB^j*val (U.drop (k+j)):=by
 have u:U.drop k=(U.drop k).take j++(U.drop k).drop j:=(List.take_append_drop j _).symm;rw[List.drop_drop]at u;have A:((U.drop k).take j).length=j:=ZgC
 calc val (U.drop k) = val ((U.drop k).take j ++ U.drop (k + j)) := by rw [← u]
  _=_:=by rw[GM,A]
theorem DivRel.window(u:DivRel w h n b T l f vm vU m e (k+1))(C:k+e<=m)(E:2<=e)(Q:e<=f.length)(N:Bt f) :
  ∃x post,x.length=e+1/\Bt x/\Win h n (vm.take k) x post/\val x<BB*val (f.take e)/\val post=0/\vm=vm.take k++x++post/\val x=vm.getD k 0+BB*val (vm.drop (k+1))/\(vm.take k).length=k:=by
 obtain⟨A,B,I,V,F,y,G,K,Z,L,M⟩:=u
 have W:vm=vm.take k++(vm.drop k).take (e+1)++vm.drop (k+(e+1)):=by
  exact Zht
 have q:val (f.take e)<BB^e:=by
  have:=Dr (CI N e);rwa [List.length_take,Nat.min_eq_left Q]at this
 have d:=Do (l:=vm) (k:=k) Zbx;have v:=GL vm k (e+1) Zbx;have Y:=AK B k
 have S:val (vm.drop k)<BB*val (f.take e):=by
  have:BB*(val (vm.drop (k+1))+1)<=BB*val (f.take e):=Nat.mul_le_mul_left _ L;rw[Nat.mul_add]at this;omega
 have R:val (vm.drop (k+(e+1)))=0:=by
  rcases Nat.eq_zero_or_pos (val (vm.drop (k+(e+1))))with u | u
  .exact u
  .exfalso
   have J:BB^(e+1)*1<=BB^(e+1)*val (vm.drop (k+(e+1))):=Nat.mul_le_mul_left _ u;have O:BB*val (f.take e)<=BB*BB^e:=Nat.mul_le_mul_left _ (Nat.le_of_lt q);have X:BB^(e+1)=BB*BB^e:=by rw[Nat.pow_succ,Nat.mul_comm]
   omega
 rw[R,Nat.mul_zero,Nat.add_zero]at v;refine⟨(vm.drop k).take (e+1),vm.drop (k+(e+1)),by simp;omega,CI (Oj B k) _,?_,by rw[<-v];exact S,R,W,by rw[<-v];exact d,by simp;omega⟩;unfold Win;rw[<-W];exact I
theorem FV(h:val f=0):val (l++f)=val l:=by rw[GM,h,Nat.mul_zero,Nat.add_zero]
theorem DivRel.step{J g U Q x P post:List Nat}{m A k q:Nat}(u:DivRel w h n b T J g U Q m A (k+1))(E:k+A<=m)(t:J.length=m+1)(F:x.length=A+1)(hU:U=U.take k++x++post)(f:(U.take k).length=k)(j:val post=0)(H:val x=U.getD k 0+BB*val (U.drop (k+1)))
  (l:P.length=A+1) (xa:Bt P) (S:Win uA n (U.take k) P post) (s:Only n h uA) (z:q<BB) (GX:val P+q*val (g.take A)=val x) (G:val P<val (g.take A)) (r:w.heap.size<=n) (v:T≠n) (o:b≠n) (xb:b≠T) (xf:w.heap.size<=T) {e:Int} (a:e=(q:Nat)) :
  DivRel w (uA.setCell ⟨T,k,none⟩ (.int .u32 e)) n b T J g (U.take k++P++post) (Q.set k q) m A k:=by
 obtain⟨B,C,I,V,L,O,R,X,Z,Y,c⟩:=u;have sU:Bt (U.take k):=CI C k;have sp:Bt post:=λy N=>C y (by rw[hU];simp[N]);have p:k<U.length:=by omega
 have xc:Blk uA T 335 (wv Q):=(s.block T (Blk.lt O) v).trans O;have xg:Blk uA b 335 (wv g):=(s.block b (Blk.lt R) o).trans R
 have W:(U.take k++P++post).drop k=P++post:=by
  rw[List.append_assoc,List.drop_append,List.drop_eq_nil_of_le Zbx,f,Nat.sub_self];rfl
 have M:(U.take k++P++post).take k=U.take k:=by
  rw[List.append_assoc,List.take_append,f,Nat.sub_self,List.take_of_length_le Zbx];simp
 have xe:J.take k=U.take k:=ZaB
 have xd:J.getD k 0=U.getD k 0:=ZaC
 refine⟨?_,?_,?_,by simpa using V,CN L k z,?_,?_,?_,?_,?_,?_⟩
 .have d:(U.take k++x++post).length=m+1:=by rw [<-hU];exact B
  simp only[List.length_append]at d ⊢;omega
 .intro y N
  rcases List.mem_append.1 N with N | N
  .rcases List.mem_append.1 N with N | N
   .exact sU y N
   .exact xa y N
  .exact sp y N
 .exact Blk.far S (by exact λe=>v e.symm) _
 .rw [a,<-HJ];exact xc.set k _
 .exact xg.far (by exact xb) _
 .rw [W, FV j, Do (l:=J) Zbx, Do (l:=Q.set k q) (by rw [List.length_set]; omega), Jp, BS Zbx, X, xd]
  have:BB*(val (Q.drop (k+1))*val (g.take A)+val (U.drop (k+1)))=BB*val (Q.drop (k+1))*val (g.take A)+BB*val (U.drop (k+1)):=by rw[Nat.mul_add,Nat.mul_assoc]
  rw[this,Nat.add_mul];omega
 .rw [M,xe]
 .rw [W,FV j];exact G
 .refine Ext.set ?_ xf _
  exact⟨s.os.trans c.os,s.tape.trans c.tape,s.output.trans c.output,Nat.le_trans c.size s.size,λi K=>(s.block i (Nat.lt_of_lt_of_le K c.size) Zbx).trans (c.block K)⟩
theorem Zl{x y m n s:Nat}(C:(Ao x).length=m)(N:(Ao y).length=n+1)(g:n+1<=m)(X:l.length=m+1)(M:val l=2^s*x)(o:val (f.take (n+1))=2^s*y):val (l.drop (m-(n+1)+1))<val (f.take (n+1)):=by
 have u:x<BB^m:=by have:=Dr (BK x);rwa [AB,C]at this
 have A:BB^n<=y:=by
  have e:=Ds N;rw[AB]at e;have:=Db N;have I:BB^n*1<=BB^n*(Ao y).getD n 0:=Nat.mul_le_mul_left _ this;omega
 have d:m-(n+1)+1=m-n:=by omega
 rw[d,o]
 have I:val l=val (l.take (m-n))+BB^(m-n)*val (l.drop (m-n)):=by
  have:=GM (l.take (m-n)) (l.drop (m-n));exact ZfU
 have b:=Nat.two_pow_pos s;have V:2^s*x<2^s*BB^m:=Nat.mul_lt_mul_of_pos_left u b
 have B:2^s*BB^m=BB^(m-n)*(2^s*BB^n):=by
  rw[Nat.mul_left_comm,<-Nat.pow_add,show m-n+n=m by omega]
 have E:BB^(m-n)*val (l.drop (m-n))<BB^(m-n)*(2^s*BB^n):=by omega
 have F:=Nat.lt_of_mul_lt_mul_left E;have G:2^s*BB^n<=2^s*y:=Nat.mul_le_mul_left _ A;omega
theorem Zm{a b s q r:Nat}(E:0<b)(h:2^s*a=q*(2^s*b)+r)(Y:r<2^s*b):a/b=q/\r/2^s=a%b:=by
 have B:0<2^s:=Nat.two_pow_pos s
 have u:(2^s*a)/(2^s*b)=q:=by
  rw[h,Nat.mul_comm q,Nat.mul_add_div (Nat.mul_pos B E),Nat.div_eq_of_lt Y,Nat.add_zero]
 have A:(2^s*a)%(2^s*b)=r:=by
  exact Zhu
 rw[Nat.mul_div_mul_left _ _ B]at u;rw[Nat.mul_mod_mul_left]at A;refine⟨u,?_⟩;rw[<-A,Nat.mul_div_cancel_left _ B]
def Jx(x y:Nat)(w:World)(e:Ending)(O:World):Prop:=
 ∃(A k:Option Addr) (n c u r:Nat),e=.returned (.tuple #[.slice A n c,.slice k u r])/\Words O (.slice A n c) (Ao (x/y))/\Words O (.slice k u r) (Ao (x%y))/\Ext w O
theorem Words.form{v:Value}(h:Words w v l):∃A n c,v=.slice A n c:=by
 obtain⟨A,c,rfl,_⟩:=h;exact⟨A,_,c,rfl⟩
theorem Zk(i B:Value)(O k:List Nat)(w:World)(t:Words w i O)(E:Words w B k)(h:O.length<=4398046511104)(Q:val O<val k) :
  Calls Tryz.prog 319 #[i,B] w (Jx (val O) (val k) w):=by
 have R:=Ae t.small;have G:=Ae E.small;replace t:=Ae t;replace E:=Ae E;have g:EQ (val O) (val k)<0:=by unfold EQ;rw[if_pos Q];omega
 have o:Hid ((Ao (val O)).length<=35184372088832):=by
  have u:(Du O).length<=O.length:=Gw O;rw[AW R.out]at u;show _<=_;omega
 replace h:=Ae h;replace Q:=Ae Q;go_enter Tryz.func319,Tryz.ntmps319;go_wp2_with fail;refine(Dt _ _ _ t.out).mono ?_;rintro e a ⟨Z,rfl,A,I⟩;rw[AW R.out]at A;replace A:=Ae A;replace I:=Ae I;go_wp2_with fail;refine(Dt _ _ _ (E.out.ext I.out)).mono ?_;rintro e C ⟨N,rfl,Y,z⟩;rw[AW G.out]at Y;replace A:=Ae (A.out.ext z);replace z:=Ae (I.out.trans z);replace Y:=Ae Y;go_wp2_with fail;refine(HC _ _ _ _ _ A.out Y.out).mono ?_;rintro e F ⟨rfl,M⟩;replace A:=Ae (A.out.ext M);replace M:=Ae (z.out.trans M);go_wp2_with fail;refine(JT _ _ _ A.out o.out).mono ?_;rintro e d ⟨S,rfl,f,W⟩;obtain⟨L,K,r,rfl⟩:=f.form;replace f:=Ae f;replace W:=Ae (M.out.trans W);go_wp2;go_ret2;refine⟨_,_,_,_,_,_,rfl,?_,?_,W.out⟩
 .exact ZgJ
 .rw [Nat.mod_eq_of_lt Q.out];exact f.out
theorem VP(i F:Value)(O k:List Nat)(w:World)(A:Words w i O)(E:Words w F k)(h:O.length<=4398046511104)(s:val k<=val O)(u:(Ao (val k)).length=1) :
  Calls Tryz.prog 319 #[i,F] w (Jx (val O) (val k) w):=by
 have X:=Ae A.small;have g:=Ae E.small;replace A:=Ae A;replace E:=Ae E;have P:¬EQ (val O) (val k)<0:=by unfold EQ;rw[if_neg Zbx];split<;>omega
 have o:Hid ((Ao (val O)).length<=4398046511104):=by
  have u:(Du O).length<=O.length:=Gw O;rw[AW X.out]at u;show _<=_;omega
 obtain⟨t,M⟩:∃t,Ao (val k)=[t]:=by
  match W:Ao (val k),u with
  |[t],_=>exact⟨t,rfl⟩
 have U:Hid (val k=t):=by
  show val k=t;rw[<-AB (val k),M];simp[val]
 have y:t<4294967296:=by
  have:=BK (val k) t (by rw[M];simp);rwa [Bn]at this
 have x:0<t:=by
  have:=Db (y:=val k) (n:=0) u;rw[M]at this;exact Zhq
 replace h:=Ae h;replace s:=Ae s;clear u;replace M:=Ae M;go_enter Tryz.func319,Tryz.ntmps319;go_wp2_with fail;refine(Dt _ _ _ A.out).mono ?_;rintro e a ⟨c,rfl,B,I⟩;rw[AW X.out]at B;replace B:=Ae B;replace I:=Ae I;go_wp2_with fail;refine(Dt _ _ _ (E.out.ext I.out)).mono ?_;rintro e C ⟨v2,rfl,Y,z⟩;rw[AW g.out]at Y;replace B:=Ae (B.out.ext z);replace z:=Ae (I.out.trans z);replace Y:=Ae Y;go_wp2_with fail;refine(HC _ _ _ _ _ B.out Y.out).mono ?_;rintro e L ⟨rfl,G⟩;replace B:=Ae (B.out.ext G);replace Y:=Y.out.ext G;replace G:=Ae (z.out.trans G);rw[M.out]at Y;obtain⟨d,b,rfl,R,T,n⟩:=Y.open_;obtain⟨Q,S,rfl,N,j⟩:=n ZbK;replace j:L.cell? ⟨Q,S,none⟩=some (.int .u32 (t:Nat)):=j 0 ZbK;clear n Y;go_wp2_with fail;refine(Nv _ _ t _ B.out o.out x y).mono ?_;rintro e l ⟨v4,rfl,f,K⟩;obtain⟨H,m,r,rfl⟩:=f.form;replace f:=Ae f;replace K:=Ae (G.out.trans K);have V:val (Ao (val O))%t<18446744073709551616:=by have:=Nat.mod_lt (val (Ao (val O))) x;omega
 replace V:=Ae V;clear j;go_wp2_with fail;refine(LU _ _ V.out).mono ?_;rintro e q ⟨v5,rfl,v,Z⟩;obtain⟨J,n5,p,rfl⟩:=v.form;replace f:=Ae (f.out.ext Z);replace v:=Ae v;replace Z:=Ae (K.out.trans Z);go_wp2;go_ret2;refine⟨_,_,_,_,_,_,rfl,?_,?_,Z.out⟩
 .have:=f.out;rw[AB]at this;rw[U.out];exact this
 .have:=v.out;rw[AB]at this;rw[U.out];exact this
theorem Nr(b e n L G k:Nat)(pre post u v:List Nat)(w:World)(B:pre.length=k)(x:Win w b pre u post)(M:u.length=n+1)(o:n<=v.length)(p:2<=n)(h:n<=4398046511104)(P:Bt u)(A:Bt v)(E:e≠b)
  (d:Blk w e 335 (wv v)) (X:n+1<=L) (C:n<=G) (c:2147483648<=v.getD (n-1) 0) (Q:val u<BB*val (v.take n)) :
  Calls Tryz.prog 328 #[.slice (some ⟨b,k,none⟩) (n+1) L,.slice (some ⟨e,0,none⟩) n G] w (A1C w b pre post u (v.take n)):=by
 subst B;refine Mb b e 0 n L G pre post u (v.take n) w x M ZgC p h P (CI A n) E (λi K=>?_) X C ?_ Q
 .rw [Nat.zero_add, d.cell, Dn Zbx]
  simp[K]
 .simp only[List.getD_eq_getElem?_getD,List.getElem?_take]at c ⊢
  rw[if_pos Zbx];exact c
set_option maxRecDepth 1000000 in
theorem VQ(T vb:Value)(N V:List Nat)(w:World)(I:Words w T N)(E:Words w vb V)(F:N.length<=4398046511104)(xh:val V<=val N)(B:2<=(Ao (val V)).length) :
  Calls Tryz.prog 319 #[T,vb] w (Jx (val N) (val V) w):=by
 have xm:=Ae I.small;have xw:=Ae E.small;replace I:=Ae I;replace E:=Ae E;have xV:¬EQ (val N) (val V)<0:=by unfold EQ;rw[if_neg Zbx];split<;>omega
 have o:(Ao (val N)).length<=4398046511104:=by
  have u:(Du N).length<=N.length:=Gw N;rw[AW xm.out]at u;omega
 have P:=BY xh;obtain⟨n,Y⟩:∃n,(Ao (val V)).length=n+1:=⟨(Ao (val V)).length-1,by omega⟩;obtain⟨m,xa⟩:∃m,(Ao (val N)).length=m:=⟨_,rfl⟩;have xI:=Db Y;have xJ:=AK (BK (val V)) n;generalize M:(Ao (val V)).getD n 0=t at *;unfold BB at xJ;obtain⟨s,xq,b,xu,yf⟩:=Za xI xJ;rw[xa]at o P;rw[Y]at P B;have xC:1<=n:=by omega
 clear B F;replace M:=Ae M;replace Y:=Ae Y;replace xa:=Ae xa;replace xh:=Ae xh;replace xu:=Ae xu;replace yf:=Ae yf;replace xq:=Ae xq;have xt:=λW=>Ce (m-(n+1)+1) Zbx .i64 .i64 W;have xE:((m-(n+1)+1:Nat):Int)=(m:Int)-((n:Int)+1)+1:=by omega
 rw[xE]at xt;clear xE;go_enter Tryz.func319,Tryz.ntmps319;go_wp2_with fail;refine(Dt _ _ _ I.out).mono ?_;rintro e R ⟨v1,rfl,f,r⟩;rw[AW xm.out]at f;replace f:=Ae f;replace r:=Ae r;go_wp2_with fail;refine(Dt _ _ _ (E.out.ext r.out)).mono ?_;rintro e l ⟨v2,rfl,y,Z⟩;rw[AW xw.out]at y;replace f:=Ae (f.out.ext Z);replace Z:=Ae (r.out.trans Z);replace y:=Ae y;go_wp2_with fail;refine(HC _ _ _ _ _ f.out y.out).mono ?_;rintro e w3 ⟨rfl,xb⟩;replace f:=f.out.ext xb;replace y:=y.out.ext xb;replace xb:=Ae (Z.out.trans xb);obtain⟨A1,S,rfl,xl,yu,xr⟩:=f.open_;clear xr;obtain⟨A2,H,rfl,xk,xW,xp⟩:=y.open_;obtain⟨b2,o2,rfl,xj,xx⟩:=xp (by rw[Y.out];omega);replace xx:w3.cell? ⟨b2,o2+n,none⟩=some (.int .u32 (t:Nat)):=by have:=xx n (by rw[Y.out];omega);rw[M.out]at this;exact this
 clear xp;rw[Y.out]at xk ⊢;rw[xa.out]at xl ⊢;replace f:=Ae f;replace y:=Ae y;have yv:(((n+1:Nat):Int)==1)=false:=ZgC
 go_wp2_with fail;refine(Go.Proofs.Tryz.bits_LeadingZeros32 _ _ Zbx Zbx).mono ?_;rintro e w3 ⟨rfl,rfl⟩;rw[Int.toNat_natCast,xq.out];have yi:Hid (Words w3 (.slice A1 m S) (Ao (val N))):=by have:=f.out;rw[xa.out]at this;exact this
 have yj:Hid (Words w3 (.slice (some ⟨b2,o2,none⟩) (n+1) H) (Ao (val V))):=by have:=y.out;rw[Y.out]at this;exact this
 clear f y xx;go_wp2_with fail;refine(Ko _ _ s _ yi.out (by rw[xa.out];exact o) b).mono ?_;rintro e w4 ⟨gu,ul,rfl,xG,xY,xF,xy,xX,xe⟩;rw[xa.out]at xG ⊢;have y:=Ae (yj.out.ext xe);clear yi yj;go_wp2_with fail;refine(Ko _ _ s _ y.out (by rw[Y.out];omega) b).mono ?_;rintro e w5 ⟨gv,vl,rfl,xn,xS,xz,xZ,xM,xs⟩;have yk:gv≠gu:=by have:=Blk.lt xy;omega
 rw[Y.out]at xn ⊢;clear y;rw[AB]at xX xM;have L:=Ae (Ts Y.out M.out xn xS xM xu.out yf.out);replace xy:=xy.ext xs;replace xs:=xb.out.trans (xe.trans xs);replace xG:=Ae xG;replace xn:=Ae xn;replace xY:=Ae xY;replace xS:=Ae xS;replace xX:=Ae xX;replace xM:=Ae xM;replace xy:=Ae xy;replace xZ:=Ae xZ;replace xs:=Ae xs;have yB:=Blk.lt xy.out;have yC:=Blk.lt xZ.out;have yd:w.heap.size<=gu:=Nat.le_trans xb.out.size xF;have yg:=xs.out.size;replace yd:=Ae yd;replace yg:=Ae yg;clear xe xF xz;go_wp2;go_loopw [13] (λi wr=>∃(k:Nat) (U Q:List Nat),k<=m-(n+1)+1/\i=.int .i64 ((k:Int)-1)/\Hid (DivRel w wr gu gv w5.heap.size ul vl U Q m (n+1) k)) (λi _=>(intOf i+1).toNat)
 case atStart=>
  refine⟨m-(n+1)+1,ul,List.replicate (m-(n+1)+1) 0,Nat.le_refl _,by congr 1;omega,xG.out,xY.out,xy.out.alloc _,by simp,BW _,Blk.new _ _ _,xZ.out.alloc _,?_,rfl,?_,xs.out.alloc _⟩
  .exact ZaD
  .exact Zl xa.out Y.out P xG.out xX.out L.out.1
 case round=>
  obtain⟨k,U,Q,C,rfl,J⟩:=hrel;by_cases xi:k=0
  .subst xi
   have xL:Hid (Words wr (.slice (some ⟨w5.heap.size,0,none⟩) (m-(n+1)+1) (m-(n+1)+1)) Q):=by
    have:=Ck (c:=m-(n+1)+1) J.out.2.2.2.2.2.1 J.out.2.2.2.2.1 Zda Zbx;rw[J.out.2.2.2.1]at this;exact this
   have ys:Hid ((U.take (n+1)).length=n+1):=by show _=_;rw[List.length_take,J.out.1];omega
   have xH:Hid (Words wr (.slice (some ⟨gu,0,none⟩) (n+1) (m+1)) (U.take (n+1))):=by
    have:=Ck (c:=m+1) J.out.2.2.1 J.out.2.1 Zcb Zbx;have:=this.take (k:=n+1) Zcb;exact this
   have xc:Hid (val N/val V=val Q/\val (U.take (n+1))/2^s=val N%val V):=by
    have u:=J.out.2.2.2.2.2.2.2.1;have B:=J.out.2.2.2.2.2.2.2.2.2.1;simp only[List.drop_zero]at u B;rw[xX.out,L.out.1]at u;rw[L.out.1]at B
    have yc:0<val V:=by
     rcases Nat.eq_zero_or_pos (val V)with h | h
     .have:=Y.out;rw[h,Br]at this;simp at this
     .exact h
    have yt:val (U.take (n+1))=val U:=by
     have e:=GL U 0 (n+1) Zcb;simp only[List.drop_zero,Nat.zero_add]at e
     have ya:2^s*val V<BB^(n+1):=by
      rw[<-L.out.1];have:=Dr (CI xS.out (n+1));rwa [List.length_take,xn.out,Nat.min_eq_left Zbx]at this
     rcases Nat.eq_zero_or_pos (val (U.drop (n+1)))with h | h
     .rw [h,Nat.mul_zero,Nat.add_zero]at e;exact e.symm
     .exfalso
      have:BB^(n+1)*1<=BB^(n+1)*val (U.drop (n+1)):=Nat.mul_le_mul_left _ h;omega
    rw[yt];exact Zm yc u B
   go_wp2
   refine wp_region_v Zbz [[], [(81, 0)], [], [], [(83, 2), (84, 3)], [], [(85, 4), (86, 5)]] [[], [0], [], [], [2, 3], [], [0, 1, 2, 3, 4, 5]]
    [λv _=>v=.slice (some ⟨w5.heap.size,0,none⟩) (m-(n+1)+1) (m-(n+1)+1),λv O=>∃A n c,v=.slice A n c/\Words O (.slice A n c) (Ao (val N/val V)),λv _=>v=.slice (some ⟨gu,0,none⟩) (m+1) (m+1),λv _=>v=.int .i64 ((n:Int)+1),λv _=>v=.slice (some ⟨gu,0,none⟩) (n+1) (m+1),λv _=>v=.int .i64 (s:Int),λv O=>∃A n c,v=.slice A n c/\Words O (.slice A n c) (Ao (val N%val V))]
    rfl Zbz Zbz ?stab ?steps ?fin
   case stab=>exact .cons (Stab.eq _) (.cons (λ_ _ _ a ⟨A,n,c,u,B⟩=>⟨A,n,c,u,B.ext a⟩) (.cons (Stab.eq _) (.cons (Stab.eq _) (.cons (Stab.eq _) (.cons (Stab.eq _) (.cons (λ_ _ _ a ⟨A,n,c,u,B⟩=>⟨A,n,c,u,B.ext a⟩) .nil))))))
   case steps=>
    refine .cons ?s0 (.cons ?s1 (.cons ?s2 (.cons ?s3 (.cons ?s4 (.cons ?s5 (.cons ?s6 .nil))))))
    case s0=>
     intro O j X C I G p;have xU:j (.tmp 12)=.slice (some ⟨w5.heap.size,0,none⟩) (m-(n+1)+1) (m-(n+1)+1):=I 12 ZbA;exact AA (by simp[execOp,xU,go_sem]) rfl
    case s1=>
     intro O j X C I G p;have yn:j (.tmp 81)=.slice (some ⟨w5.heap.size,0,none⟩) (m-(n+1)+1) (m-(n+1)+1):=C.1 _ rfl;refine CD (by simp[execOp,resolve,invoke,p,yn,go_sem]) (Dt _ _ _ (xL.out.ext ((Ext.refl _).drew.trans X))) ?_;rintro e R ⟨v1,rfl,f,r⟩;obtain⟨A1,n1,S,rfl⟩:=f.form;exact⟨_,rfl,r,_,_,_,rfl,by rw[AW J.out.2.2.2.2.1,<-xc.out.1]at f;exact f⟩
    case s2=>
     intro O j X C I G p;have xK:j (.tmp 10)=.slice (some ⟨gu,0,none⟩) (m+1) (m+1):=I 10 ZbA;exact AA (by simp[execOp,xK,go_sem]) rfl
    case s3=>
     intro O j X C I G p;have e8:j (.tmp 8)=.int .i64 ((n:Int)+1):=I 8 ZbA;exact AA ZdV rfl
    case s4=>
     intro O j X C I G p;have yo:j (.tmp 83)=.slice (some ⟨gu,0,none⟩) (m+1) (m+1):=C.1 _ rfl;have yp:j (.tmp 84)=.int .i64 ((n:Int)+1):=C.2.1 _ rfl;have yw:(n:Int)+1<=(m:Int)+1:=by omega
     have yx:(0:Int)<=(n:Int)+1:=by omega
     exact AA (by simp[execOp,yo,yp,yw,yx,go_sem]) rfl
    case s5=>
     intro O j X C I G p;have e9:j (.tmp 9)=.int .i64 (s:Int):=I 9 ZbA;exact AA (by simp[execOp,e9,go_sem]) rfl
    case s6=>
     intro O j X C I G p;have yq:j (.tmp 85)=.slice (some ⟨gu,0,none⟩) (n+1) (m+1):=C.1 _ rfl;have yr:j (.tmp 86)=.int .i64 (s:Int):=C.2.1 _ rfl;refine CD (by simp[execOp,resolve,invoke,p,yq,yr,go_sem]) (Ol _ _ s _ (xH.out.ext ((Ext.refl _).drew.trans X)) (by rw[ys.out];omega) b) ?_;rintro e R ⟨v1,rfl,f,r⟩;obtain⟨A1,n1,S,rfl⟩:=f.form;exact⟨_,rfl,r,_,_,_,rfl,by rw[xc.out.2]at f;exact f⟩
   case fin=>
    intro g O X hF;obtain⟨yy,ym,yh,d,xf⟩:=hF 1 _ rfl;obtain⟨yz,yD,yA,K,xD⟩:=hF 6 _ rfl;simp only[List.length_cons,List.length_nil,Nat.reduceAdd,List.drop_succ_cons,List.drop_zero,List.take_succ_cons,List.take_zero,EM,Act.put,List.setIfInBounds_toArray,List.set_cons_succ,List.set_cons_zero,d,K];clear hF d K;replace xf:=Ae xf;replace xD:=Ae xD;replace X:=Ae (J.out.2.2.2.2.2.2.2.2.2.2.trans ((Ext.refl _).drew.trans X));go_wp2;go_ret2;exact⟨_,_,_,_,_,_,rfl,xf.out,xD.out,X.out⟩
  .obtain ⟨k, rfl⟩:∃q, k=q+1:=⟨k-1, by omega⟩
   have xf:((k+1:Nat):Int)-1=k:=by omega
   rw[xf];obtain⟨x,post,xr,xp,xN,xO,xP,xQ,xR,xA⟩:=J.out.window Zbx Zbx (by rw[xn.out];omega) xS.out;replace xr:=Ae xr;replace xp:=Ae xp;replace xN:=Ae xN;replace xO:=Ae xO;replace xP:=Ae xP;replace xQ:=Ae xQ;replace xR:=Ae xR;replace xA:=Ae xA;go_wp2_with fail;rw[show k+(n+1)+1-k=n+1+1 by omega];refine(Nr gu gv (n+1) _ _ k (U.take k) post x vl wr xA.out xN.out xr.out (by rw[xn.out];omega) Zbx Zbx xp.out xS.out yk J.out.2.2.2.2.2.2.1 Zbx Zbx L.out.2 xO.out).mono ?_;rintro e w6 ⟨q,x',rfl,z,xv,xT,yb,hO,GX,ye⟩;rw[xr.out]at xv;have xo:q<4294967296:=by rwa [Bn]at z
   have xB:Blk w6 w5.heap.size 335 (wv Q):=(hO.block _ (Blk.lt J.out.2.2.2.2.2.1) Zbx).trans J.out.2.2.2.2.2.1;have yl:w6.cell? ⟨w5.heap.size,k,none⟩=some (.int .u32 (Q.getD k 0:Nat)):=by rw[xB.cell,Dn Zda]
   have xd:=xB.frozen k;have xg:=J.out.step Zbx xG.out xr.out xQ.out xA.out xP.out xR.out xv xT yb hO z GX ye yd.out Zbx yk Zbx yg.out (e:=(q:Nat)) rfl;replace xg:=Ae xg;clear xv xT yb hO GX ye xB z;go_wp2;exact⟨⟨k,_,_,by omega,rfl,xg⟩,by simp[intOf]⟩
theorem KF(i z:Value)(O k:List Nat)(w:World)(t:Words w i O)(E:Words w z k)(B:O.length<=4398046511104)(g:val k≠0) :
  Calls Tryz.prog 319 #[i,z] w (Jx (val O) (val k) w):=by
 rcases Nat.lt_or_ge (val O) (val k)with h | h
 .exact Zk i z O k w t E B h
 .by_cases u:(Ao (val k)).length=1
  .exact VP i z O k w t E B h u
  .have A:(Ao (val k)).length≠0:=λe=>g (Bi.1 e)
   exact VQ i z O k w t E B h Zbx
theorem Ez(h:(Ao n).length<=b):n<BB^b:=by
 have:=Dr (BK n);rw[AB]at this;exact Nat.lt_of_lt_of_le this (Nat.pow_le_pow_right Cp h)
theorem Ie{x k:Nat}(h:x<BB^k):(Ao x).length<=k:=by
 induction k generalizing x with
 |zero=>simp at h;subst h;rw[Br];simp
 |succ k n=>
  by_cases C:x=0
  .subst C;rw[Br];simp
  .rw [Ee C]
   simp only[List.length_cons];have:=n (x:=x/BB) (Nat.div_lt_of_lt_mul (by rw[Nat.pow_succ,Nat.mul_comm]at h;exact h));omega
theorem Yg:BB^2=18446744073709551616:=by decide
theorem Dd{x y k:Nat}(h:x<=y)(N:(Ao y).length<=k):(Ao x).length<=k:=Nat.le_trans (BY h) N
def A1W(W:World)(G N k:Nat)(X Y:Value)(wr:World):Prop:=
 ∃(x y:Nat) (A u:Option Addr) (n c e r:Nat),X=.slice A n c/\Y=.slice u e r/\Words wr (.slice A n c) (Ao x)/\Words wr (.slice u e r) (Ao y)/\Nat.gcd x y=G/\y=k/\(Ao x).length<=N/\(Ao y).length<=N/\Ext W wr
def A59(G:Nat)(m n:Value):Prop:=∃p q:Nat,m=.int .u64 p/\n=.int .u64 q/\p<18446744073709551616/\q<18446744073709551616/\Nat.gcd p q=G
theorem Words.len(h:Words w (.slice uB n b) l):n=l.length:=by
 obtain⟨k,r,o,_⟩:=h;injection o
theorem A2R(b V:Bool)(A A':Option Addr)(n c K r:Nat)(x y:Int)(w:World)(h:IsInt w (.bool b) (.slice A n c) x)(f:IsInt w (.bool V) (.slice A' K r) y)(N:(Ao x.natAbs).length<=4398046511104)(xb:(Ao y.natAbs).length<=4398046511104) :
  Calls Tryz.prog 290 #[.agg #[.bool b,.slice A n c],.agg #[.bool V,.slice A' K r]] w (Jw (Nat.gcd x.natAbs y.natAbs) w):=by
 replace h:=Ae h;replace f:=Ae f;replace N:=Ae N;replace xb:=Ae xb;go_enter Tryz.func290,Tryz.ntmps290;go_wp2
 refine wp_region_v Zbz [[], [(11, 0)], [(12, 1)], [(13, 2)], [], [(15, 4)], [(16, 5)], [(17, 6)]] [[], [0], [0, 1], [0, 1, 2], [], [4], [0, 1, 2, 3, 4, 5], [0, 1, 2, 3, 4, 5, 6]]
  [λv _=>v=.pointer (some ⟨w.heap.size,1,none⟩),λv _=>v=.slice A n c,λv O=>∃A n c,v=.slice A n c/\Words O (.slice A n c) (Ao x.natAbs),λv O=>∃A n c,v=.slice A n c/\Words O (.slice A n c) (Ao x.natAbs),λv _=>v=.pointer (some ⟨w.heap.size+1,1,none⟩),λv _=>v=.slice A' K r,λv O=>∃A n c,v=.slice A n c/\Words O (.slice A n c) (Ao y.natAbs),λv O=>∃A n c,v=.slice A n c/\Words O (.slice A n c) (Ao y.natAbs)]
  rfl Zbz Zbz ?stab ?steps ?fin
 case stab=>exact .cons (Stab.eq _) (.cons (Stab.eq _) (.cons (λ_ _ _ a ⟨A,n,c,u,B⟩=>⟨A,n,c,u,B.ext a⟩) (.cons (λ_ _ _ a ⟨A,n,c,u,B⟩=>⟨A,n,c,u,B.ext a⟩) (.cons (Stab.eq _) (.cons (Stab.eq _) (.cons (λ_ _ _ a ⟨A,n,c,u,B⟩=>⟨A,n,c,u,B.ext a⟩) (.cons (λ_ _ _ a ⟨A,n,c,u,B⟩=>⟨A,n,c,u,B.ext a⟩) .nil)))))))
 case steps=>
  refine .cons ?s0 (.cons ?s1 (.cons ?s2 (.cons ?s3 (.cons ?s4 (.cons ?s5 (.cons ?s6 (.cons ?s7 .nil)))))))
  case s0=>
   intro O j I C t E R;have S:j (.tmp 2)=.pointer (some ⟨w.heap.size,0,none⟩):=t 2 ZbA;exact AA (by simp[execOp,S,go_sem]) rfl
  case s1=>
   intro O j I C t E R;have xx:j (.tmp 11)=.pointer (some ⟨w.heap.size,1,none⟩):=C.1 _ rfl;have l:O.cell? ⟨w.heap.size,1,none⟩=some (.slice A n c):=I.cellv (((((Blk.new _ _ _).alloc _).alloc _).drew.cell 1));exact AA (by simp[execOp,xx,l,go_sem]) rfl
  case s2=>
   intro O j I C t E R;have xC:j (.tmp 12)=.slice A n c:=C.1 _ rfl;refine CD (by simp[execOp,resolve,invoke,R,xC,go_sem]) (Dt _ _ _ (h.out.2.ext (((((Ext.refl _).alloc _).alloc _).alloc _).drew.trans I))) ?_;rintro e d ⟨v1,rfl,o,xa⟩;exact ZfL
  case s3=>
   intro O j I C t E R;have xM:=C.1 _ rfl;obtain⟨A3,n3,c3,xD,xJ⟩:=xM;refine CD (by simp[execOp,resolve,invoke,R,xD,go_sem]) (JT _ _ _ xJ (by have:=N.out;omega)) ?_;rintro e d ⟨v1,rfl,o,xa⟩;exact Zga
  case s4=>
   intro O j I C t E R;exact Zfa
  case s5=>
   intro O j I C t E R;have xE:j (.tmp 15)=.pointer (some ⟨w.heap.size+1,1,none⟩):=C.1 _ rfl;have l:O.cell? ⟨w.heap.size+1,1,none⟩=some (.slice A' K r):=I.cellv ((((ER _ _ ZbK).alloc _).drew.cell 1));exact AA (by simp[execOp,xE,l,go_sem]) rfl
  case s6=>
   intro O j I C t E R;have xH:j (.tmp 16)=.slice A' K r:=C.1 _ rfl;refine CD (by simp[execOp,resolve,invoke,R,xH,go_sem]) (Dt _ _ _ (f.out.2.ext (((((Ext.refl _).alloc _).alloc _).alloc _).drew.trans I))) ?_;rintro e d ⟨v1,rfl,o,xa⟩;exact ZfL
  case s7=>
   intro O j I C t E R;have xN:=C.1 _ rfl;obtain⟨A3,n3,c3,xI,xJ⟩:=xN;refine CD (by simp[execOp,resolve,invoke,R,xI,go_sem]) (JT _ _ _ xJ (by have:=xb.out;omega)) ?_;rintro e d ⟨v1,rfl,o,xa⟩;exact Zga
 case fin=>
  intro g O I hF;obtain⟨AX,nX,cX,U,hX⟩:=hF 3 _ rfl;obtain⟨AY,nY,cY,e7,hY⟩:=hF 7 _ rfl;simp only[List.length_cons,List.length_nil,Nat.reduceAdd,List.drop_succ_cons,List.drop_zero,List.take_succ_cons,List.take_zero,EM,Act.put,List.setIfInBounds_toArray,List.set_cons_succ,List.set_cons_zero,U,e7];clear hF U e7;replace hX:=Ae hX;replace hY:=Ae hY;replace I:=Ae I;generalize hG:Nat.gcd x.natAbs y.natAbs=G at *;replace hG:=Ae hG;go_wp2;go_loopg [5,6] (y.natAbs) (λk X Y wr=>A1W (((w.alloc (Obj.cells #[Value.bool b,Value.slice A n c] 109)).alloc (Obj.cells #[Value.bool V,Value.slice A' K r] 109)).alloc (Obj.cells #[Value.bool false,Value.slice none 0 0] 109)).drew G 4398046511104 k X Y wr)
  case atStart=>exact⟨_,_,_,_,_,_,_,_,rfl,rfl,hX.out,hY.out,hG.out,rfl,N.out,xb.out,I.out⟩
  case round=>
   obtain⟨p,q,A1,A2,n1,i,n2,c2,rfl,rfl,o,xc,xn,rfl,P,H,xj⟩:=hrel;clear hX hY I;have xu:=o.len;have xs:=xc.len;by_cases xq:q=0
   .subst xq
    obtain rfl:n2=0:=by rw[xs,Br];rfl
    have F:Hid (p=G):=by show p=G;rw[<-xn];simp
    replace o:=Ae o;replace xj:=Ae xj;clear xu xs xn xc P H;go_wp2_with fail;refine(DJ _ _ _ _ o.out).mono ?_;rintro e J ⟨b2,A2,n2,k2,rfl,xk,m⟩;rw[AB,F.out]at xk;replace m:=Ae (xj.out.trans m);replace xk:=Ae xk;obtain⟨T,xf⟩:=m.out.cells;go_wp2;refine bodyPost_ret (v:=.agg #[.bool b2,.slice A2 n2 k2]) Zen rfl ⟨_,_,_,_,rfl,?_,?_⟩
    .have M:Ty J (w.heap.size+2) 109:=(EU _ _ ZbK).drew.ext m.out
     exact(xk.out.set M ZbA _).set (M.set _ _) ZbA _
    .exact (((((Ext.refl _).alloc _).alloc _).alloc _).drew.trans m.out |>.set Zcm _).set Zcm _
   .have xt:0<n2:=by
     rcases Nat.eq_zero_or_pos n2 with L | L
     .exact absurd (Bi.1 (xs.symm.trans L)) xq
     .exact L
    by_cases xB:n1<=2/\n2<=2
    .obtain ⟨xm,xo⟩:=xB
     have xA:p<18446744073709551616:=by rw[<-Yg];exact Ez Zbx
     have xi:q<18446744073709551616:=by rw[<-Yg];exact Ez Zbx
     have xy:(Ao p).length<=2:=by omega
     have xz:(Ao q).length<=2:=by omega
     replace o:=Ae o;replace xc:=Ae xc;replace xj:=Ae xj;replace xn:=Ae xn;replace xy:=Ae xy;replace xz:=Ae xz;replace xA:=Ae xA;replace xi:=Ae xi;clear xu xs P H;have d1:decide ((n1:Int)<=2)=true:=by simp;omega
     have d2:decide ((n2:Int)<=2)=true:=by simp;omega
     go_wp2_with fail;refine(Qx _ _ _ o.out xy.out).mono ?_;rintro e d ⟨rfl,xa⟩;replace xc:=Ae (xc.out.ext xa);replace xa:=Ae (xj.out.trans xa);go_wp2_with fail;refine(Qx _ _ _ xc.out xz.out).mono ?_;rintro e J ⟨rfl,m⟩;replace m:=Ae (xa.out.trans m);rw[AB,AB];go_wp2;go_loopw [7,8] (λmm nn wr=>A59 G mm nn/\Hid (Ext (((w.alloc (Obj.cells #[Value.bool b,Value.slice A n c] 109)).alloc (Obj.cells #[Value.bool V,Value.slice A' K r] 109)).alloc (Obj.cells #[Value.bool false,Value.slice none 0 0] 109)).drew wr)) (λ_ nn _=>(intOf nn).toNat)
     case atStart=>exact⟨⟨p,q,rfl,rfl,xA.out,xi.out,xn.out⟩,m.out⟩
     case round=>
      obtain⟨⟨p,q,rfl,rfl,F,z,Z⟩,xr⟩:=hrel;clear xn xA xi m xa xj o xc xy xz;replace Z:=Ae Z;by_cases W:q=0
      .subst W
       have xO:Hid (p=G):=by show p=G;rw[<-Z.out];simp
       replace F:=Ae F;go_wp2_with fail;refine(LU _ _ F.out).mono ?_;rintro e w3 ⟨v3,rfl,xp,xd⟩;replace xd:=Ae (xr.out.trans xd);replace xp:=Ae xp;go_wp2_with fail;refine(DJ _ _ _ _ xp.out).mono ?_;rintro e J ⟨b2,A2,n2,k2,rfl,xk,m⟩;rw[AB,xO.out]at xk;replace m:=Ae (xd.out.trans m);replace xk:=Ae xk;obtain⟨T,xf⟩:=m.out.cells;go_wp2;refine bodyPost_ret (v:=.agg #[.bool b2,.slice A2 n2 k2]) Zen rfl ⟨_,_,_,_,rfl,?_,?_⟩
       .have M:Ty J (w.heap.size+2) 109:=(EU _ _ ZbK).drew.ext m.out
        exact(xk.out.set M ZbA _).set (M.set _ _) ZbA _
       .exact (((((Ext.refl _).alloc _).alloc _).alloc _).drew.trans m.out |>.set Zcm _).set Zcm _
      .have xg:(1:Int)<=q:=by omega
       have s:Hid ((p:Int)%q=((p%q:Nat):Int)):=(Int.natCast_emod _ _).symm;replace F:=Ae F;have xK:=Ae z;clear z;go_wp2;go_quiet (fail);go_wp2;rw[s.out];refine⟨⟨⟨q,p%q,rfl,rfl,xK.out,?_,?_⟩,xr.out.drewN _⟩,?_⟩
       .have:=Nat.mod_lt p (show 0<q by omega)
        have:=xK.out;omega
       .have:=Z.out
        rw[<-this,Nat.gcd_comm p q,Nat.gcd_rec q p,Nat.gcd_comm]
       .have:=Nat.mod_lt p (show 0<q by omega)
        simp only[intOf];omega
    .have xG:(Ao p).length<=4398046511104:=P
     have xL:Hid (Nat.gcd q (p%q)=G):=by
      show _=G;rw[<-xn,Nat.gcd_comm p q,Nat.gcd_rec q p,Nat.gcd_comm]
     have xw:Hid ((Ao (p%q)).length<=4398046511104):=Dd (Nat.le_of_lt (Nat.mod_lt p (Nat.pos_of_ne_zero xq))) H;have xF:Hid (val (Ao q)≠0):=by show _≠0;rw[AB];exact xq
     have Q:Hid (p%q<q):=Nat.mod_lt p (Nat.pos_of_ne_zero xq);replace o:=Ae o;replace xc:=Ae xc;replace xj:=Ae xj;replace xG:=Ae xG;replace H:=Ae H;clear xu xs xn P xq;have xv:Hid (¬(n1<=2/\n2<=2)):=xB;clear xB;by_cases d1:n1<=2
     .have xl:decide ((n1:Int)<=2)=true:=by simp; omega
      have xh:decide ((n2:Int)<=2)=false:=by have:=xv.out;simp;omega
      clear xv;go_wp2_with fail;refine(KF _ _ _ _ _ o.out xc.out xG.out xF.out).mono ?_;rintro e J ⟨A3,A4,n3,c3,n4,c4,rfl,xp,xe,m⟩;rw[AB,AB]at xe;replace xc:=Ae (xc.out.ext m);replace m:=Ae (xj.out.trans m);replace xe:=Ae xe;clear xp;go_wp2;go_roundg (p%q)
      case measure=>exact Q.out
      case rel=>exact⟨_,_,_,_,_,_,_,_,rfl,rfl,xc.out,xe.out,xL.out,rfl,H.out,xw.out,m.out⟩
     .have xl:decide ((n1:Int)<=2)=false:=by simp; omega
      clear xv;go_wp2_with fail;refine(KF _ _ _ _ _ o.out xc.out xG.out xF.out).mono ?_;rintro e J ⟨A3,A4,n3,c3,n4,c4,rfl,xp,xe,m⟩;rw[AB,AB]at xe;replace xc:=Ae (xc.out.ext m);replace m:=Ae (xj.out.trans m);replace xe:=Ae xe;clear xp;go_wp2;go_roundg (p%q)
      case measure=>exact Q.out
      case rel=>exact⟨_,_,_,_,_,_,_,_,rfl,rfl,xc.out,xe.out,xL.out,rfl,H.out,xw.out,m.out⟩
def A1v(q r:Int)(w:World)(e:Ending)(O:World):Prop:=
 ∃(b x:Bool) (A k:Option Addr) (n c u B:Nat),e=.returned (.tuple #[.agg #[.bool b,.slice A n c],.agg #[.bool x,.slice k u B],.int .i64 0])/\IsInt O (.bool b) (.slice A n c) q/\IsInt O (.bool x) (.slice k u B) r/\Ext w O
theorem Uh{x y q r:Int}(N:y≠0)(h:r+y*q=x)(g:0<=r)(u:r<y.natAbs):x/y=q/\x%y=r:=by
 rcases Int.lt_or_gt_of_ne N with X | hpos
 .have:=(Int.ediv_emod_unique' (a:=x) (b:=y) (r:=r) (q:=q) X).2 ⟨h, g, by omega⟩
  exact this
 .have:=(Int.ediv_emod_unique (a:=x) (b:=y) (r:=r) (q:=q) hpos).2 ⟨h, g, by omega⟩
  exact this
theorem Uk{x y:Int}(hy:y≠0)(h:¬x<0\/x.natAbs%y.natAbs=0):x/y=Ir (!(decide (x<0)==decide (y<0))) (x.natAbs/y.natAbs)/\x%y=Ir false (x.natAbs%y.natAbs):=by
  have hyp:0<y.natAbs:=by omega
  have e:=Nat.div_add_mod x.natAbs y.natAbs
  have hlt:=Nat.mod_lt x.natAbs hyp
  generalize x.natAbs/y.natAbs=q at *
  generalize x.natAbs%y.natAbs=r at *
  have e':(y.natAbs:Int)*q+r=x.natAbs:=by exact_mod_cast e
  refine Uh hy ?_ (by simp [Ir]) (by simp [Ir];omega)
  have hsx:=KY (z:=x)
  have hsy:=KY (z:=y)
  by_cases hx:x<0
  . have hr : r = 0 := by rcases h with h | h
                          . exact absurd hx h
                          . exact h
    subst hr
    by_cases hy2:y<0
    . have ex:(x.natAbs:Int) = -x:=by omega
      have ey:(y.natAbs:Int) = -y:=by omega
      rw [ex,ey] at e'
      simp [Ir,hx,hy2]
      rw [Int.neg_mul] at e'
      omega
    . have ex:(x.natAbs:Int) = -x:=by omega
      have ey:(y.natAbs:Int)=y:=by omega
      rw [ex,ey] at e'
      simp [Ir,hx,hy2]
      rw [Int.mul_neg]
      omega
  . by_cases hy2:y<0
    . have ex:(x.natAbs:Int)=x:=by omega
      have ey:(y.natAbs:Int) = -y:=by omega
      rw [ex,ey] at e'
      simp [Ir,hx,hy2]
      rw [Int.mul_neg]
      rw [Int.neg_mul] at e'
      omega
    . have ex:(x.natAbs:Int)=x:=by omega
      have ey:(y.natAbs:Int)=y:=by omega
      rw [ex,ey] at e'
      simp [Ir,hx,hy2]
      omega
theorem SA(b C:Bool)(A k:Option Addr)(n c u r:Nat)(x y:Int)(w:World)(h:IsInt w (.bool b) (.slice A n c) x)(d:IsInt w (.bool C) (.slice k u r) y)(B:(Ao x.natAbs).length<=4398046511104)(X:(Ao y.natAbs).length<=4398046511104)(N:y≠0)(G:¬x<0\/x.natAbs%y.natAbs=0) :
  Calls Tryz.prog 291 #[.agg #[.bool b,.slice A n c],.agg #[.bool C,.slice k u r]] w (A1v (x/y) (x%y) w):=by
 have W:=Ae h.bool_eq;have Q:=Ae d.bool_eq;have z:=Ae (Uk N G);have v:Hid (y.natAbs≠0):=by show _≠0;omega
 replace h:=Ae h;replace d:=Ae d;replace B:=Ae B;replace X:=Ae X;replace G:=Ae G;go_enter Tryz.func291,Tryz.ntmps291;go_wp2_with fail;refine(Dt _ _ _ (d.out.2.ext (((((Ext.refl _).alloc _).alloc _).alloc _).alloc _))).mono ?_;rintro e a ⟨Z,rfl,I,O⟩;rw[AW (BK _),AB]at I;obtain⟨i,m,E,rfl⟩:=I.form;have s:m≠0:=by rw[I.len];exact λe=>v.out (Bi.1 e)
 have xb:((m:Int)==0)=false:=by simpa using s
 clear s I;obtain⟨L,V⟩:=O.cells;replace O:=Ae O;go_wp2_with fail;refine(KF _ _ _ _ _ (h.out.2.ext ((((((Ext.refl _).alloc _).alloc _).alloc _).alloc _).trans O.out)) (d.out.2.ext ((((((Ext.refl _).alloc _).alloc _).alloc _).alloc _).trans O.out)) B.out (by rw[AB];exact v.out)).mono ?_;rintro e K ⟨A3,U,P,S,q,l,rfl,j,f,F⟩;rw[AB,AB]at j f
 have xa:Hid (b=false\/q=0):=by
  rcases G.out with G | G
  .left;rw[W.out];simpa using G
  .rw [G]at f
   exact .inr (by rw[f.len,Br];rfl)
 replace F:=Ae (O.out.trans F);clear L V;obtain⟨L,V⟩:=F.out.cells;replace j:=Ae j;replace f:=Ae f;clear xb
 cases b with
 |false=>
  clear xa;go_wp2_with fail;refine(DJ _ _ _ _ j.out).mono ?_;rintro e o ⟨b5,A5,n5,t,rfl,H,R⟩;rw[AB,show C = !(decide (x<0)==decide (y<0))by rw[<-W.out,<-Q.out];cases C<;>rfl,<-z.out.1]at H;replace f:=Ae (f.out.ext R);replace H:=Ae H;replace R:=Ae (F.out.trans R);clear L V;obtain⟨L,V⟩:=R.out.cells;go_wp2_with fail;refine(DJ _ _ _ _ f.out).mono ?_;rintro e p ⟨b6,A6,n6,c6,rfl,T,Y⟩;rw[AB,<-z.out.2]at T;replace H:=Ae (H.out.ext Y);replace T:=Ae T;replace Y:=Ae (R.out.trans Y);clear L V;obtain⟨L,V⟩:=Y.out.cells;go_wp2;refine bodyPost_ret (v:=.tuple #[.agg #[.bool b5,.slice A5 n5 t],.agg #[.bool b6,.slice A6 n6 c6],.int .i64 0]) Zeo rfl ⟨_,_,_,_,_,_,_,_,rfl,?_,?_,?_⟩
  .exact ZaE
  .exact ZaF
  .exact Zhv
 |true=>
  obtain rfl:q=0:=by
   rcases xa.out with g | g
   .cases g
   .exact g
  clear xa;go_wp2_with fail;refine(DJ _ _ _ _ j.out).mono ?_;rintro e o ⟨b5,A5,n5,t,rfl,H,R⟩;rw[AB,show(!C) = !(decide (x<0)==decide (y<0))by rw[<-W.out,<-Q.out];cases C<;>rfl,<-z.out.1]at H;replace f:=Ae (f.out.ext R);replace H:=Ae H;replace R:=Ae (F.out.trans R);clear L V;obtain⟨L,V⟩:=R.out.cells;go_wp2_with fail;refine(DJ _ _ _ _ f.out).mono ?_;rintro e p ⟨b6,A6,n6,c6,rfl,T,Y⟩;rw[AB,<-z.out.2]at T;replace H:=Ae (H.out.ext Y);replace T:=Ae T;replace Y:=Ae (R.out.trans Y);clear L V;obtain⟨L,V⟩:=Y.out.cells;go_wp2;refine bodyPost_ret (v:=.tuple #[.agg #[.bool b5,.slice A5 n5 t],.agg #[.bool b6,.slice A6 n6 c6],.int .i64 0]) Zeo rfl ⟨_,_,_,_,_,_,_,_,rfl,?_,?_,?_⟩
  .exact ZaE
  .exact ZaF
  .exact Zhv
theorem IsInt.one{u:Bool}(h:IsInt w (.bool u) (.slice uB n b) a)(A:a=1):u=false/\n=1/\∃g o,uB=some ⟨g,o,none⟩/\w.cell? ⟨g,o,none⟩=some (.int .u32 1):=by
 subst A
 have W:Ao (1:Int).natAbs=[1]:=by
  show Ao 1=[1];rw[Ee Zbx];have:(1:Nat)%BB=1:=Nat.mod_eq_of_lt QS;have B:(1:Nat)/BB=0:=Nat.div_eq_of_lt QS;rw[this,B,Br]
 have B:=h.2;rw[W]at B;obtain⟨k,r,E,_,_,C⟩:=B.open_;injection E with d v U
 subst d;subst U;obtain⟨g,o,N,_,G⟩:=C ZbK;exact⟨h.bool_eq,v,g,o,N,G 0 ZbK⟩
theorem Ze(b:Bool)(A:Option Addr)(n c:Nat)(z:Int)(w:World)(h:IsInt w (.bool b) (.slice A n c) z) :
  Calls Tryz.prog 285 #[.agg #[.bool b,.slice A n c]] w λe O=>e=.returned (.bool (decide (z=1)))/\Ext w O:=by
 cases b with
 |true=>
  have K:Hid (decide (z=1)=false):=by
   have:=h.bool_eq;show _=false;simp at this ⊢;omega
  clear h;go_enter Tryz.func285,Tryz.ntmps285;go_wp2;go_ret;exact⟨by rw[K.out];rfl,(Ext.refl _).alloc _⟩
 |false=>
  by_cases E:n=1
  .subst E
   have B:=h.2;have L:=B.len
   obtain⟨t,M⟩:∃t,Ao z.natAbs=[t]:=by
    match W:Ao z.natAbs,L with
    |[t],_=>exact⟨t,rfl⟩
   rw[M]at B;obtain⟨k,r,F,G,s,C⟩:=B.open_;injection F with d v U
   subst d;subst U;obtain⟨g,o,rfl,N,R⟩:=C ZbK;replace R:w.cell? ⟨g,o,none⟩=some (.int .u32 (t:Nat)):=R 0 ZbK
   have X:Hid (z=(t:Nat)):=by
    have I:z.natAbs=t:=by rw[<-AB z.natAbs,M];simp[val]
    have V:=h.bool_eq;simp at V;show z=t;omega
   have Q:w.heap.size≠g:=by omega
   clear C B h L v;replace M:=Ae M;by_cases u:t=1
   .subst u
    go_enter Tryz.func285,Tryz.ntmps285;go_wp2;go_ret;exact⟨by rw[X.out];rfl,(Ext.refl _).alloc _⟩
   .have S:((t:Int)==1)=false:=ZgC
    go_enter Tryz.func285,Tryz.ntmps285;go_wp2;go_ret;refine⟨?_,(Ext.refl _).alloc _⟩;have:decide (z=1)=false:=by rw[X.out];exact ZgC
    rw[this];rfl
  .have K:Hid (decide (z=1)=false):=by
    show _=false;simp only[decide_eq_false_iff_not];intro e;exact E (h.one e).2.1
   have S:((n:Int)==1)=false:=by simp;omega
   clear h;go_enter Tryz.func285,Tryz.ntmps285;go_wp2;go_ret;exact⟨by rw[K.out];rfl,(Ext.refl _).alloc _⟩
theorem Fo{x y:Int}{N M:Nat}(C:(Ao x.natAbs).length<=N)(B:(Ao y.natAbs).length<=M):(Ao (x*y).natAbs).length<=N+M:=by
 have u:=Ez C;have A:=Ez B
 have I:(x*y).natAbs<BB^(N+M):=by
  rw[Int.natAbs_mul,Nat.pow_add];rcases Nat.eq_zero_or_pos y.natAbs with g | g
  .rw [g,Nat.mul_zero];exact Nat.mul_pos (Nat.pow_pos Cp) (Nat.pow_pos Cp)
  .exact Nat.mul_lt_mul_of_lt_of_le u (Nat.le_of_lt A) (Nat.pow_pos Cp)
 exact Ie I
theorem Da{x y:Int}(N:0<y):(Rat.divInt x y).num=x/(Nat.gcd x.natAbs y.natAbs:Int)/\((Rat.divInt x y).den:Int)=y/(Nat.gcd x.natAbs y.natAbs:Int):=by
 obtain⟨d,rfl⟩:=Int.eq_ofNat_of_zero_le (Int.le_of_lt N);have W:d≠0:=by omega
 have:Rat.divInt x (d:Int)=mkRat x d:=rfl;rw[this,<-Rat.normalize_eq_mkRat W,Rat.normalize_eq W];exact⟨rfl,by simp[Int.natCast_ediv]⟩
theorem QW(a b:Rat):(a*b).num=(Rat.divInt a.num b.den).num*(Rat.divInt b.num a.den).num/\(a*b).den=(Rat.divInt a.num b.den).den*(Rat.divInt b.num a.den).den:=by
 have u:=Da (x:=a.num) (y:=b.den) (by have:=b.den_nz;omega);have A:=Da (x:=b.num) (y:=a.den) (by have:=a.den_nz;omega);have e:a*b=Rat.mul a b:=rfl;rw[e];unfold Rat.mul
 dsimp only
 rw[Int.divExact_eq_ediv,Int.divExact_eq_ediv,Nat.divExact_eq_div,Nat.divExact_eq_div];refine⟨by rw[u.1,A.1];rfl,?_⟩
 have d:(Rat.divInt a.num b.den).den=b.den/Nat.gcd a.num.natAbs b.den:=by
  have:=u.2;simp at this;exact_mod_cast this
 have v:(Rat.divInt b.num a.den).den=a.den/Nat.gcd b.num.natAbs a.den:=by
  have:=A.2;simp at this;exact_mod_cast this
 rw[d,v,Nat.mul_comm]
theorem Rp(a b:Rat):a+b=Rat.divInt (a.num*b.den+b.num*a.den) ((a.den:Int)*b.den):=by
 rw[Rat.add_def,Rat.normalize_eq_mkRat];have:((a.den:Int)*b.den)=((a.den*b.den:Nat):Int):=by simp
 rw[this];rfl
theorem Qk(a:Rat)(h:0<a.num):a⁻¹.num=a.den/\(a⁻¹.den:Int)=a.num:=by
 rw[Rat.inv_def];have u:=Da (x:=a.den) (y:=a.num) h;have A:Nat.gcd ((a.den:Int).natAbs) a.num.natAbs=1:=by simpa[Nat.gcd_comm]using a.reduced.symm
 rw[A]at u;exact Zhe
theorem Ql(a:Rat)(h:a.num<0):a⁻¹.num=-(a.den:Int)/\(a⁻¹.den:Int)=-a.num:=by
 rw[Rat.inv_def,<-Rat.neg_divInt_neg];have u:=Da (x:=-(a.den:Int)) (y:=-a.num) Zbx;have A:Nat.gcd ((-(a.den:Int)).natAbs) (-a.num).natAbs=1:=by simpa[Nat.gcd_comm]using a.reduced.symm
 rw[A]at u;exact Zhe
theorem VR(x:Int):(Rat.divInt x 1).num=x/\((Rat.divInt x 1).den:Int)=1:=by
 have u:=Da (x:=x) (y:=1) Zbx;exact Zhe
theorem Pk{x y:Int}(N:0<y)(h:Nat.gcd x.natAbs y.natAbs=1):(Rat.divInt x y).num=x/\((Rat.divInt x y).den:Int)=y:=by
 have u:=Da (x:=x) N;rw[h]at u;exact Zhe
def IsRat(w:World)(p h b g:Value)(q:Rat):Prop:=IsInt w p h q.num/\IsInt w b g (q.den:Int)
theorem IsRat.ext{p A b g:Value}{q:Rat}(u:IsRat w p A b g q)(a:Ext w h):IsRat h p A b g q:=⟨u.1.ext a,u.2.ext a⟩
def RSz(q:Rat)(N:Nat):Prop:=(Ao q.num.natAbs).length<=N/\(Ao q.den).length<=N
theorem RSz.mono{q:Rat}(h:RSz q n)(s:n<=b):RSz q b:=⟨Nat.le_trans h.1 s,Nat.le_trans h.2 s⟩
theorem Jj(x:Int)(g:Nat)(G:(g:Int)∣x):(x/(g:Int)).natAbs<=x.natAbs:=by
 obtain⟨k,rfl⟩:=G;rcases Nat.eq_zero_or_pos g with h | h
 .subst h;simp
 .rw [Int.mul_ediv_cancel_left _ Zbx, Int.natAbs_mul]
  exact Nat.le_mul_of_pos_left _ ZcK
theorem JR{x y:Int}(N:0<y):(Rat.divInt x y).num.natAbs<=x.natAbs/\(Rat.divInt x y).den<=y.natAbs:=by
 have h:=Da (x:=x) N;have u:((Nat.gcd x.natAbs y.natAbs:Nat):Int)∣x:=Int.ofNat_dvd_left.2 (Nat.gcd_dvd_left _ _);have A:((Nat.gcd x.natAbs y.natAbs:Nat):Int)∣y:=Int.ofNat_dvd_left.2 (Nat.gcd_dvd_right _ _);refine⟨by rw[h.1];exact Jj _ _ u,?_⟩;have:=Jj _ _ A;rw[<-h.2]at this;exact Zhq
theorem RSz.divInt{x y:Int}{N:Nat}(u:0<y)(C:(Ao x.natAbs).length<=N)(t:(Ao y.natAbs).length<=N):RSz (Rat.divInt x y) N:=
 ⟨Dd (JR u).1 C,Dd (JR u).2 t⟩
theorem den_pos(q:Rat):(0:Int)<q.den:=by have:=q.den_nz;omega
theorem RSz.mul{N M:Nat}(F:RSz vV N)(z:RSz uT M):RSz (vV*uT) (N+M):=by
 have h:=QW vV uT;have l:=JR (x:=vV.num) (den_pos uT);have r:=JR (x:=uT.num) (den_pos vV);simp only[Int.natAbs_natCast]at l r;constructor
 .rw [h.1]
  exact Fo (Dd l.1 F.1) (Dd r.1 z.1)
 .rw [h.2]
  have:=Fo (x:=((Rat.divInt vV.num uT.den).den:Int)) (y:=((Rat.divInt uT.num vV.den).den:Int)) (N:=M) (M:=N) (by simpa using Dd l.2 z.2) (by simpa using Dd r.2 F.2);rw[Int.natAbs_mul]at this;simpa[Nat.add_comm]using this
theorem XM(C:(Ao a.natAbs).length<=n)(N:(Ao J.natAbs).length<=n):(Ao (a+J).natAbs).length<=n+1:=by
 have u:=Ez C;have A:=Ez N;refine Ie ?_;have I:=Int.natAbs_add_le a J;have V:2*BB^n<=BB^n*BB:=by rw[Nat.mul_comm];exact Nat.mul_le_mul_left _ ZbA
 rw[Nat.pow_succ];omega
theorem Es(q:Rat)(h:RSz q n):(Ao (q.den:Int).natAbs).length<=n:=by simpa using h.2
theorem RSz.add{p q:Rat}(hp:RSz p n)(z:RSz q b):RSz (p+q) (n+b+1):=by
 rw[Rp];refine RSz.divInt (Int.mul_pos (den_pos p) (den_pos q)) ?_ ?_
 .refine XM (Fo hp.1 (Es q z)) ?_
  have:=Fo z.1 (Es p hp);rwa [Nat.add_comm]at this
 .exact Nat.le_trans (Fo (Es p hp) (Es q z)) Zbx
theorem A3j(h:RSz vV n)(g:vV.num≠0):RSz vV⁻¹ n:=by
 rcases Int.lt_or_gt_of_ne g with u | hp
 .obtain ⟨d,v⟩:=Ql vV u
  have U:vV⁻¹.den=vV.num.natAbs:=by omega
  exact⟨by rw[d,Int.natAbs_neg];exact Es vV h,by rw[U];exact h.1⟩
 .obtain ⟨d,v⟩:=Qk vV hp
  have U:vV⁻¹.den=vV.num.natAbs:=by omega
  exact⟨by rw[d];exact Es vV h,by rw[U];exact h.1⟩
end Go.Proofs.YtcikkglcoeedlaaGreat
