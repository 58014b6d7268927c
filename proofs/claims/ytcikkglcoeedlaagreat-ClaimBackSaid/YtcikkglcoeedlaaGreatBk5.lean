/- Part 5. No condition. -/
import Derived.Deep.CutBlock
import Derived.Deep.DeepCutAuto
import Derived.Test.YtcikkglcoeedlaaGreatBk1
set_option linter.unusedSimpArgs false
set_option linter.unusedVariables false
set_option maxRecDepth 100000
set_option maxHeartbeats 2000000
namespace Go.Proofs.YtcikkglcoeedlaaGreat
open _root_.Go.Proofs.Tryz
variable{l f:List Nat}{n:Nat}{w q uD:World}
section
open Go.RowKit
theorem Ec{k:Nat}(h:k<l.length):val (l.drop k)=l.getD k 0+BB*val (l.drop (k+1)):=by
 rw[Ycn h];simp[val,h]
theorem Ld{k x:Nat}:(l.set k x).drop (k+1)=l.drop (k+1):=by
 rw[List.drop_set];simp
theorem LI{r x:Nat}(X:r<4294967296)(E:x<4294967296):bits .or .u64 ((r:Int)*4294967296) (x:Int)=(r:Int)*4294967296+x:=by
 have h:=RB (q:=x) (x:=r) E X
 have B:bits .or .u64 ((r:Int)*4294967296) (x:Int)=bits .or .u64 (x:Int) ((r:Int)*4294967296):=by
  show IntKind.u64.wrap ((BitVec.ofInt 64 ((r:Int)*4294967296) ||| BitVec.ofInt 64 (x:Int)).toNat:Int)=IntKind.u64.wrap ((BitVec.ofInt 64 (x:Int) ||| BitVec.ofInt 64 ((r:Int)*4294967296)).toNat:Int);rw[BitVec.or_comm]
 rw[B,h];omega
def DsRel(w wr:World)(V q:List Nat)(d n k r:Nat):Prop:=
 q.length=n/\BM q/\Blk wr w.heap.size 335 (wv q)/\val (V.drop k)=val (q.drop k)*d+r/\Ext w wr
theorem DsRel.step{w wr:World}{V q:List Nat}{d n k r x:Nat}(h:DsRel w wr V q d n (k+1) r)(C:k<n)(f:V.length=n)(E:V.getD k 0=x)(G:0<d)(X:r<d)(b:d<4294967296)(K:x<4294967296){u:Int}(J:u=((r*4294967296+x)/d:Nat)) :
  DsRel w (wr.setCell ⟨w.heap.size,k,none⟩ (.int .u32 u)) V (q.set k ((r*4294967296+x)/d)) d n k ((r*4294967296+x)%d):=by
 obtain⟨A,B,L,S,I⟩:=h
 have F:(r*4294967296+x)/d<BB:=by
  rw[BF];refine Ybw ?_;exact Zij
 refine⟨by simpa using A,Do B k F,by rw[J,<-Jo];exact L.set k _,?_,I.set (Yah _) _⟩;rw[Ec (l:=V) (k:=k) ZbD,Ec (l:=q.set k _) (k:=k) (by rw[Yct];omega),Ld,Cp ZbD,E,S,<-BF];have e:=YcV (r*BB+x) d;rw[YbC,YaD,YaY BB];have s:d*((r*BB+x)/d)=(r*BB+x)/d*d:=YaM _ _;have H:BB*r=r*BB:=YaM _ _;omega
theorem A0p{r x d:Nat}(X:r<d)(E:x<4294967296)(A:d<4294967296) :
  ((r:Int)*4294967296+x)/d%4294967296=((r*4294967296+x)/d:Nat)/\((r:Int)*4294967296+x)%d=((r*4294967296+x)%d:Nat):=by
 have e:(r:Int)*4294967296+x=((r*4294967296+x:Nat):Int):=by omega
 rw[e,<-Ydk,<-Ydl]
 have F:(r*4294967296+x)/d<4294967296:=by
  refine Ybw ?_;exact Zij
 generalize (r*4294967296+x)/d=q at *;exact⟨by omega,rfl⟩
theorem Qh(O:Value)(J:List Nat)(d:Nat)(w:World)(p:Words w O J)(f:J.length<=4398046511104)(H:0<d)(P:d<4294967296) :
  Calls prog 325 #[O,.int .u64 d] w λe N=>∃Y,e=.returned (.tuple #[Y,.int .u64 (val J%d:Nat)])/\Words N Y (As (val J/d))/\Ext w N:=by
 obtain⟨A,c,rfl,I,j,E⟩:=p.open_;have g:=Af p.small;clear p;have Q:=Af E;clear E;obtain⟨n,L⟩:∃n,n=J.length:=⟨_,rfl⟩;rw[<-L]at I f ⊢;replace L:=Af L;have h:=λW=>CA n (by omega) .i64 .i64 W;go_enter func325,ntmps325;go_wp2;go_loopw [7,8] (λt i wr=>∃(k r:Nat) (q:List Nat),k<=n/\i=.int .i64 ((k:Int)-1)/\t=.int .u64 r/\r<d/\Hid (DsRel w wr J q d n k r)) (λ_ i _=>(intOf i+1).toNat)
 case atStart => exact ⟨n, 0, List.replicate n 0, Yah _, rfl, rfl, H, by simp, Cu _, Blk.new _ _ _, by
  have B:J.drop n=[]:=YaL (by rw[<-L.out];omega);rw[B];simp[val],(Ext.refl _).alloc _⟩
 case round=>
  obtain⟨k,r,q,C,rfl,rfl,X,G⟩:=hrel;by_cases a:k=0
  .subst a
   have K:Hid (Words wr (.slice (some ⟨w.heap.size,0,none⟩) n n) q):=by
    have:=CI (c:=n) G.out.2.2.1 G.out.2.1 (by rw[G.out.1];omega) (by omega);rw[G.out.1]at this;exact this
   have u:Hid (val J/d=val q/\val J%d=r):=by
    have B:=G.out.2.2.2.1;simp only[YaU]at B;rw[B];constructor
    .rw [YaM,YcN H,YbI X,Ybd]
    .rw [YaM,Ydt,YaS X]
   go_wp2_with (go_at_call 287;refine(Ei _ _ _ K.out).mono ?_;rintro e N ⟨Y,rfl,l,V⟩);go_ret2;refine⟨Y,by rw[u.out.2];rfl,?_,G.out.2.2.2.2.trans V⟩;rw[Bn G.out.2.1,<-u.out.1]at l;exact l
  .obtain ⟨k, rfl⟩:∃q, k=q+1:=⟨k-1, by omega⟩
   obtain⟨b,o,rfl,F,M⟩:=Q.out (by rw[<-L.out];omega);replace M:=(G.out.2.2.2.2.cell (p:=⟨b,o+k,none⟩) F).trans (M k (by rw[<-L.out];omega));have R:=Bd g.out k;have T:wr.cell? ⟨w.heap.size,k,none⟩=some (.int .u32 (q.getD k 0:Nat)):=by rw[G.out.2.2.1.cell,Ea (by rw[G.out.1];omega)]
   have S:=G.out.2.2.1.frozen k;generalize E:J.getD k 0=x at *;replace E:=Af E;unfold BB at R;have Z:((k+1:Nat):Int)-1=k:=by omega
   rw[Z];have m:=LI (r:=r) (x:=x) (by omega) R;have u:Hid (((r:Int)*4294967296+x)/d%4294967296=((r*4294967296+x)/d:Nat)/\((r:Int)*4294967296+x)%d=((r*4294967296+x)%d:Nat)):=A0p X R P;go_wp2;refine⟨⟨k,(r*4294967296+x)%d,_,by omega,rfl,by rw[u.out.2],YaT _ H,G.out.step C L.out.symm E.out H X P R u.out.1⟩,by simp[intOf]⟩
def ShlRel(w wr:World)(V r:List Nat)(s n k Q:Nat):Prop:=
 r.length=n+1/\BM r/\Blk wr w.heap.size 335 (wv r)/\val (r.take k)+BB^k*Q=2^s*val (V.take k)/\Ext w wr
theorem Xt{s:Nat}(Y:s<32):2^s<=2147483648:=by
 have:2^s<=2^31:=Ybk ZbD ZbD;exact ZjF
theorem A71{x s C:Nat}(E:x<4294967296)(Y:s<32)(I:C<2^s):bits .or .u64 (IntKind.u64.wrap ((x:Int)*2^s)) (C:Int)=((x*2^s+C:Nat):Int):=by
 have G:=Xt Y;have Q:x*2^s<=4294967296*2147483648:=YaW ZbD G;have Z:(x:Int)*2^s=((x*2^s:Nat):Int):=by simp[Ydr,Int.natCast_pow]
 have A:IntKind.u64.wrap ((x:Int)*2^s)=((x*2^s:Nat):Int):=by rw[Z,IntKind.wrap_u64];omega
 have B:(x*2^s) ||| C=x*2^s+C:=by
  have:=Ycz I x;rw[YdN]at this;omega
 rw[A,u64_or_nat _ _ ZbD ZbD,B]
theorem ShlRel.step{V r:List Nat}{s n k Q x:Nat}(h:ShlRel w q V r s n k Q)(C:k<n)(E:V.getD k 0=x)(R:x<4294967296)(Y:s<32)(I:Q<2^s){u z:Int}(M:u=((x*2^s+Q)%BB:Nat))(o:z=((x*2^s+Q)/BB:Nat)) :
  ∃(O K:Nat) (N:List Nat),O<=n/\Value.int .i64 ((k:Int)+1)=.int .i64 O/\Value.int .u64 z=.int .u64 K/\K<4294967296/\Hid (K<2^s)/\Hid (ShlRel w (q.setCell ⟨w.heap.size,k,none⟩ (.int .u32 u)) V N s n O K):=by
 obtain⟨A,B,L,S,F⟩:=h;have G:=Xt Y
 have l:(x*2^s+Q)/BB<2^s:=by
  refine Ybw ?_;rw[BF];have:(x+1)*2^s<=4294967296*2^s:=YaB _ R;rw[YbC,YcA]at this;omega
 refine⟨k+1,(x*2^s+Q)/BB,r.set k ((x*2^s+Q)%BB),C,by simp,by rw[o],by omega,l,by simpa using A,Do B k (YaT _ CQ),by rw[M,<-Jo];exact L.set k _,?_,F.set (Yah _) _⟩;rw[Bg,Dt,Cp ZbD,Bg V,E,YaD];have e:=YcF (x*2^s+Q) BB
 have J:BB^k*((x*2^s+Q)%BB)+BB^(k+1)*((x*2^s+Q)/BB)=BB^k*(x*2^s+Q):=by
  rw[Ybq,YaY,<-YaD,e]
 have H:BB^k*(x*2^s+Q)=2^s*(BB^k*x)+BB^k*Q:=by
  rw[YaD,<-YaY,YaM (BB^k*x)]
 omega
theorem ShlRel.close{V r:List Nat}{s n Q:Nat}(h:ShlRel w q V r s n n Q)(f:V.length=n)(I:Q<4294967296) :
  (r.set n Q).length=n+1/\BM (r.set n Q)/\Blk (q.setCell ⟨w.heap.size,n,none⟩ (.int .u32 (Q:Int))) w.heap.size 335 (wv (r.set n Q))/\val (r.set n Q)=2^s*val V/\Ext w (q.setCell ⟨w.heap.size,n,none⟩ (.int .u32 (Q:Int))):=by
 obtain⟨A,B,L,S,C⟩:=h;have R:V.take n=V:=Yap ZbD;rw[R]at S;have E:(r.set n Q).take (n+1)=r.set n Q:=Yap Zip;refine⟨by simpa using A,Do B n (by rw[BF];exact I),by rw[<-Jo];exact L.set n _,?_,C.set (Yah _) _⟩;rw[<-E,Bg,Dt,Cp ZbD,S]
theorem Ms(q:Value)(V:List Nat)(s:Nat)(w:World)(p:Words w q V)(f:V.length<=4398046511104)(Y:s<32) :
  Calls prog 327 #[q,.int .i64 s] w λe N=>∃(g:Nat) (r:List Nat),e=.returned (.slice (some ⟨g,0,none⟩) (V.length+1) (V.length+1))/\r.length=V.length+1/\BM r/\w.heap.size<=g/\Blk N g 335 (wv r)/\val r=2^s*val V/\Ext w N:=by
 obtain⟨A,c,rfl,I,a,E⟩:=p.open_;have u:=Af p.small;clear p;have M:=Af E;clear E;obtain⟨n,J⟩:∃n,n=V.length:=⟨_,rfl⟩;rw[<-J]at I f ⊢;replace J:=Af J;have Z:=λW=>CA (n+1) ZbD .i64 .i64 W;simp only[Ycq,Yea]at Z;go_enter func327,ntmps327;go_wp2;go_loopw [6,15] (λd i wr=>∃(k G:Nat) (r:List Nat),k<=n/\i=.int .i64 k/\d=.int .u64 G/\G<4294967296/\Hid (G<2^s)/\Hid (ShlRel w wr V r s n k G)) (λ_ i _=>n-(intOf i).toNat)
 case atStart=>exact⟨0,0,List.replicate (n+1) 0,Yaw _,rfl,rfl,by omega,YcY s,⟨by simp,Cu _,Blk.new _ _ _,by simp[val],(Ext.refl _).alloc _⟩⟩
 case round=>
  obtain⟨k,G,r,C,rfl,rfl,h,X,B⟩:=hrel;by_cases Q:k<n
  .obtain ⟨b, o, rfl, F, K⟩:=M.out (by rw [<-J.out]; omega)
   replace K:=(B.out.2.2.2.2.cell (p:=⟨b,o+k,none⟩) F).trans (K k (by rw[<-J.out];omega));have O:=Bd u.out k;have T:wr.cell? ⟨w.heap.size,k,none⟩=some (.int .u32 (r.getD k 0:Nat)):=by rw[B.out.2.2.1.cell,Ea (by rw[B.out.1];omega)]
   have R:=B.out.2.2.1.frozen k;generalize E:V.getD k 0=x at *;replace E:=Af E;unfold BB at O;have S:=A71 O Y X.out;replace S:=Af S;go_wp2;rw[S.out];exact⟨B.out.step Q E.out O Y X.out ZcU ZcU,by simp[intOf];omega⟩
  .obtain rfl:k=n:=by omega
   have T:wr.cell? ⟨w.heap.size,k,none⟩=some (.int .u32 (r.getD k 0:Nat)):=by rw[B.out.2.2.1.cell,Ea (by rw[B.out.1];omega)]
   have R:=B.out.2.2.1.frozen k;have L:=Af (B.out.close J.out.symm h);go_wp2;go_ret;exact⟨w.heap.size,_,rfl,L.out.1,L.out.2.1,Yah _,L.out.2.2.1,L.out.2.2.2.1,L.out.2.2.2.2⟩
theorem A81{t s:Nat}(M:t<18446744073709551616)(Y:s<32):bits .and .u64 (t:Int) ((2^s-1:Nat):Int)=((t%2^s:Nat):Int):=by
 have G:=Xt Y;rw[u64_and_nat _ _ M ZbD,YdJ]
theorem A70{r x s:Nat}(X:r<2^s)(E:x<4294967296)(Y:s<32) :
  ((r:Int)*4294967296+x)/2^s%4294967296=((r*4294967296+x)/2^s:Nat) /\
  bits .and .u64 ((r:Int)*4294967296+x) (IntKind.u64.wrap (IntKind.u64.wrap (2^s)-1))=((r*4294967296+x)%2^s:Nat):=by
 have G:=Xt Y;have A:=YcY s;have e:((2:Int)^s)=((2^s:Nat):Int):=by simp[Int.natCast_pow]
 constructor
 .rw [e];exact(A0p X E ZbD).1
 .have Z:IntKind.u64.wrap (IntKind.u64.wrap (2^s)-1)=((2^s-1:Nat):Int):=by
   rw[e];simp only[IntKind.wrap_u64];omega
  have B:(r:Int)*4294967296+x=((r*4294967296+x:Nat):Int):=by omega
  rw[Z,B,A81 ZbD Y]
theorem Rk(Q:Value)(J:List Nat)(s:Nat)(w:World)(p:Words w Q J)(f:J.length<=4398046511104)(Y:s<32) :
  Calls prog 329 #[Q,.int .i64 s] w λe N=>∃K,e=.returned K/\Words N K (As (val J/2^s))/\Ext w N:=by
 obtain⟨A,c,rfl,I,m,E⟩:=p.open_;have h:=Af p.small;clear p;have R:=Af E;clear E;obtain⟨n,M⟩:∃n,n=J.length:=⟨_,rfl⟩;rw[<-M]at I f ⊢;replace M:=Af M;have H:0<2^s:=YcY s;have P:2^s<4294967296:=by have:=Xt Y;omega
 replace H:=Af H;replace P:=Af P;have j:=λW=>CA n ZbD .i64 .i64 W;go_enter func329,ntmps329;go_wp2;go_loopw [6,7] (λt i wr=>∃(k r:Nat) (q:List Nat),k<=n/\i=.int .i64 ((k:Int)-1)/\t=.int .u64 r/\Hid (r<2^s)/\Hid (DsRel w wr J q (2^s) n k r)) (λ_ i _=>(intOf i+1).toNat)
 case atStart => exact ⟨n, 0, List.replicate n 0, Yah _, rfl, rfl, H.out, by simp, Cu _, Blk.new _ _ _, by
  have B:J.drop n=[]:=YaL Zea;rw[B];simp[val],(Ext.refl _).alloc _⟩
 case round=>
  obtain⟨k,r,q,C,rfl,rfl,X,G⟩:=hrel;by_cases g:k=0
  .subst g
   have L:Hid (Words wr (.slice (some ⟨w.heap.size,0,none⟩) n n) q):=by
    exact Zjc
   have u:Hid (val J/2^s=val q):=by
    have B:=G.out.2.2.2.1;simp only[YaU]at B;show val J/2^s=val q;rw[B,YaM,YcN H.out,YbI X.out,Ybd]
   go_wp2_with (go_at_call 287;refine(Ei _ _ _ L.out).mono ?_;rintro e N ⟨K,rfl,l,V⟩);go_ret;refine⟨K,rfl,?_,G.out.2.2.2.2.trans V⟩;rw[Bn G.out.2.1,<-u.out]at l;exact l
  .obtain ⟨k, rfl⟩:∃q, k=q+1:=⟨k-1, by omega⟩
   obtain⟨b,o,rfl,F,O⟩:=R.out Zea;replace O:=(G.out.2.2.2.2.cell (p:=⟨b,o+k,none⟩) F).trans (O k Zea);have S:=Bd h.out k;have T:wr.cell? ⟨w.heap.size,k,none⟩=some (.int .u32 (q.getD k 0:Nat)):=by rw[G.out.2.2.1.cell,Ea ZdI]
   have Z:=G.out.2.2.1.frozen k;generalize E:J.getD k 0=x at *;replace E:=Af E;unfold BB at S;have a:((k+1:Nat):Int)-1=k:=by omega
   rw[a];have d:r<4294967296:=Yej X.out P.out;have v:=LI (r:=r) (x:=x) d S;have u:=Af (A70 X.out S Y);go_wp2;refine⟨⟨k,(r*4294967296+x)%2^s,_,by omega,rfl,by rw[u.out.2],YaT _ H.out,G.out.step C M.out.symm E.out H.out X.out P.out S u.out.1⟩,by simp[intOf]⟩
structure KN(u v p vl ul v1 v2 u0 u1 u2:Nat):Prop where
 hv:v=vl+p*(v2+BB*v1)
 hu:u=ul+p*(u2+BB*(u1+BB*u0))
 vl_lt:vl<p
 ul_lt:ul<p
 v2_lt:v2<BB
 v1_lt:v1<BB
 u0_lt:u0<BB
 u1_lt:u1<BB
 u2_lt:u2<BB
 v1_pos:0<v1
 lt:u<BB*v
section
variable {u v p vl ul v1 v2 u0 u1 u2:Nat}
theorem KN.p_pos(h:KN u v p vl ul v1 v2 u0 u1 u2):0<p:=YbU (Yaw _) h.vl_lt
theorem KN.u0_le(h:KN u v p vl ul v1 v2 u0 u1 u2):u0<=v1:=by
 have G:=h.p_pos
 have A:v+1<=p*(v2+1+BB*v1):=by
  rw[h.hv,show v2+1+BB*v1=(v2+BB*v1)+1 by omega,YaD p (v2+BB*v1) 1];have:=h.vl_lt;omega
 have B:v2+1+BB*v1<=BB*(v1+1):=by
  rw[YaD];have:=h.v2_lt;omega
 have L:v<p*(BB*(v1+1)):=Yaq A (Yas p B);have S:u<BB*(p*(BB*(v1+1))):=Yej h.lt (Ydg L CQ)
 have n:p*(BB*(BB*u0))<=u:=by
  rw[h.hu]
  have:BB*(BB*u0)<=u2+BB*(u1+BB*u0):=by
   exact Zhp
  have:=Yas p this;omega
 have C:BB*(p*(BB*(v1+1)))=p*(BB*(BB*(v1+1))):=by rw[Ybj]
 rw[C]at S;have g:=YbU n S;have y:=Ybs g;have Q:=Ybs y;have W:=Ybs Q;omega
theorem KN.v_ge(h:KN u v p vl ul v1 v2 u0 u1 u2):p*BB<=v:=by
 rw[h.hv];have:BB*1<=BB*v1:=Yas _ h.v1_pos;have B:p*BB<=p*(v2+BB*v1):=Yas p ZbD;omega
theorem KN.v_pos(h:KN u v p vl ul v1 v2 u0 u1 u2):0<v:=Yaq (YcS h.p_pos CQ) h.v_ge
theorem KN.q_lt(h:KN u v p vl ul v1 v2 u0 u1 u2):u/v<BB:=Ybw (by rw[YaM];exact h.lt)
theorem KN.qV(h:KN u v p vl ul v1 v2 u0 u1 u2):u/v*(v2+BB*v1)<=u2+BB*(u1+BB*u0):=by
 have A:u/v*v<=u:=Nat.div_mul_le_self u v
 have B:p*(u/v*(v2+BB*v1))<=u/v*v:=by
  rw[Ybj];refine Yas _ ?_;have:=h.hv;omega
 have L:u<p*(u2+BB*(u1+BB*u0)+1):=by
  have:=h.hu;have:=h.ul_lt;rw[YaD p _ 1];omega
 have S:p*(u/v*(v2+BB*v1))<p*(u2+BB*(u1+BB*u0)+1):=by omega
 have:=Ybs S;omega
theorem KN.qv1(h:KN u v p vl ul v1 v2 u0 u1 u2):u/v*v1<=u1+BB*u0:=by
 have A:=h.qV
 have B:BB*(u/v*v1)<=u/v*(v2+BB*v1):=by
  rw[YaD (u/v),Ybj];omega
 have L:BB*(u/v*v1)<BB*(u1+BB*u0+1):=by
  have:=h.u2_lt;rw[YaD BB _ 1];omega
 have:=Ybs L;omega
theorem KN.start(h:KN u v p vl ul v1 v2 u0 u1 u2):u/v<=(u1+BB*u0)/v1:=(Nat.le_div_iff_mul_le h.v1_pos).2 h.qv1
theorem KN.down(h:KN u v p vl ul v1 v2 u0 u1 u2){q r:Nat}(b:q*v1+r=u1+BB*u0)(l:u/v<=q)(M:BB<=q\/r*BB+u2<q*v2):1<=q/\u/v<=q-1/\(q-1)*v1+(r+v1)=u1+BB*u0:=by
 have c:1<=q:=by
  rcases M with M | M
  .have:=CQ;omega
  .rcases Yaz q with c | c
   .subst c;simp at M
   .exact c
 refine⟨c,?_,?_⟩
 .rcases M with M | M
  .have:=h.q_lt;omega
  .have Q:u/v<q:=by
    have A:=h.qV
    have B:u2+BB*(u1+BB*u0)<q*(v2+BB*v1):=by
     rw[<-b,YaD q,Ybj q,YaD BB];have:BB*r=r*BB:=YaM _ _;omega
    exact Yei (YbU A B)
   omega
 .have:(q-1)*v1+v1=q*v1:=by
   exact Zho
  omega
theorem KN.great(h:KN u v p vl ul v1 v2 u0 u1 u2){q r:Nat}(b:q*v1+r=u1+BB*u0)(X:BB<=r):q<BB/\q*v2<=r*BB+u2:=by
 have c:=h.u0_le;have A:BB*u0<=BB*v1:=Yas _ c;have B:q*v1<BB*v1:=by have:=h.u1_lt;omega
 have l:q<BB:=Yei B;refine⟨l,?_⟩;have L:q*v2<=BB*BB:=YaW (YbT l) (YbT h.v2_lt);have S:BB*BB<=r*BB:=YaB _ X;omega
theorem KN.after(h:KN u v p vl ul v1 v2 u0 u1 u2){q r:Nat}(b:q*v1+r=u1+BB*u0)(l:q<BB)(M:q*v2<=r*BB+u2):q*v<u+v:=by
 have A:q*(v2+BB*v1)<=u2+BB*(u1+BB*u0):=by
  rw[<-b,YaD q,Ybj q,YaD BB];have:BB*r=r*BB:=YaM _ _;omega
 have B:q*v=q*vl+p*(q*(v2+BB*v1)):=by
  rw[h.hv,YaD,Ybj q p]
 have L:p*(q*(v2+BB*v1))<=p*(u2+BB*(u1+BB*u0)):=Yas p A;have S:p*(u2+BB*(u1+BB*u0))<=u:=by have:=h.hu;omega
 have n:q*vl<p*BB:=by
  rw[YaM p];exact YbU (YaB _ (YbT l)) (Ydg h.vl_lt CQ)
 have C:=h.v_ge;omega
end
theorem ZG(h:l.length=n+2):val l=val (l.take n)+BB^n*(l.getD n 0+BB*l.getD (n+1) 0):=by
 have A:=Bg l (n+1);have B:=Bg l n;rw[Yap ZbD]at A;rw[A,B,Ybq,YaY,YbM,<-YaD]
theorem ZF(h:l.length=n+3):val l=val (l.take n)+BB^n*(l.getD n 0+BB*(l.getD (n+1) 0+BB*l.getD (n+2) 0)):=by
 have A:=Bg l (n+2);have B:=Bg l (n+1);have L:=Bg l n;rw[Yap ZbD]at A;rw[A,B,L];have Z:BB^(n+1)=BB^n*BB:=Ybq ..;have s:BB^(n+2)=BB^n*(BB*BB):=by rw[YcG];rfl
 rw[Z,s];simp only[YaD,YaY,YbM]
theorem Di(h:BM l)(k:Nat):BM (l.take k):=λx E=>h x (Ybr E)
theorem Rj(h:BM l)(k:Nat):BM (l.drop k):=λx E=>h x (Ych E)
theorem A8S(S:l.length=n+3)(r:f.length=n+2)(A:BM l)(X:BM f)(B:0<f.getD (n+1) 0)(Q:val l<BB*val f) :
  KN (val l) (val f) (BB^n) (val (f.take n)) (val (l.take n)) (f.getD (n+1) 0) (f.getD n 0) (l.getD (n+2) 0) (l.getD (n+1) 0) (l.getD n 0) where
 hv:=ZG r
 hu:=ZF S
 vl_lt:=by have:=Eg (Di X n);rwa [YaO,Ybu ZbD]at this
 ul_lt:=by have:=Eg (Di A n);rwa [YaO,Ybu ZbD]at this
 v2_lt:=Bd X _
 v1_lt:=Bd X _
 u0_lt:=Bd A _
 u1_lt:=Bd A _
 u2_lt:=Bd A _
 v1_pos:=B
 lt:=Q
def Win(w:World)(b:Nat)(pre x post:List Nat):Prop:=Blk w b 335 (wv (pre++x++post))
theorem Win.cell{b:Nat}{pre x post:List Nat}(h:Win w b pre x post){k:Nat}(C:k<x.length):w.cell? ⟨b,pre.length+k,none⟩=some (.int .u32 (x.getD k 0:Nat)):=by
 rw[Blk.cell h,Ea Zip];simp[YaQ,C,show¬pre.length+k<pre.length by omega]
theorem Win.frozen{b:Nat}{pre x post:List Nat}(h:Win w b pre x post)(k:Nat):w.frozen? ⟨b,k,none⟩=false:=Blk.frozen h k
theorem Win.set{b:Nat}{pre x post:List Nat}(h:Win w b pre x post){k:Nat}(C:k<x.length)(y:Nat):Win (w.setCell ⟨b,pre.length+k,none⟩ (.int .u32 (y:Int))) b pre (x.set k y) post:=by
 have:=Blk.set h (pre.length+k) (.int .u32 (y:Int));rw[Jo]at this;unfold Win
 have e:(pre++x++post).set (pre.length+k) y=pre++x.set k y++post:=by
  rw[Yaf,Yaf,List.set_append_right _ _ ZbD,Nat.add_sub_cancel_left,List.set_append_left _ _ C]
 rw[e]at this;exact this
structure Only(b:Nat)(w w':World):Prop where
 os:w'.os=w.os
 tape:w'.tape=w.tape
 output:w'.output=w.output
 size:w.heap.size<=w'.heap.size
 block:∀k,k<w.heap.size->k≠b->w'.heap[k]? = w.heap[k]?
theorem Only.refl(b:Nat)(w:World):Only b w w:=⟨rfl,rfl,rfl,Yah _,λ_ _ _=>rfl⟩
theorem Only.trans{b:Nat}(h:Only b w q)(k:Only b q uD):Only b w uD:=
 ⟨k.os.trans h.os,k.tape.trans h.tape,k.output.trans h.output,Yat h.size k.size,λi K C=>(k.block i (Yaq K h.size) C).trans (h.block i K C)⟩
theorem Only.drewN(h:Only n w q)(A:Nat):Only n w (q.drewN A):=⟨h.os,h.tape,h.output,h.size,h.block⟩
theorem Only.set{b:Nat}(h:Only b w q)(o:Nat)(u:Value):Only b w (q.setCell ⟨b,o,none⟩ u):=
 ⟨h.os,h.tape,h.output,by simpa[World.setCell]using h.size,λi K C=>(Below.heap_setCell q ⟨b,o,none⟩ u i C).trans (h.block i K C)⟩
theorem Only.cellv{b:Nat}(h:Only b w q){p:Addr}(G:p.block≠b){v:Value}(r:w.cell? p=some v):q.cell? p=some v:=
 (World.cell?_of_block (w:=w) (h.block p.block (World.block_lt_of_cell? w p r) G)).trans r
theorem Yo(x y c:Nat)(E:x<4294967296)(O:y<=4294967296)(I:c<=1)(m:y+c<=4294967296) :
  IntKind.u64.wrap (IntKind.u64.wrap ((x:Int)-y)-c)%4294967296=((x+BB*(if x<y+c then 1 else 0)-y-c:Nat):Int) /\
  IntKind.u64.wrap (IntKind.u64.wrap ((x:Int)-y)-c)/9223372036854775808=((if x<y+c then 1 else 0:Nat):Int):=by
 simp only[IntKind.wrap_u64,BF];split
 .constructor<;>omega
 .constructor<;>omega
theorem A9u{q y c z d:Nat}(o:z<4294967296)(C:d<=1) :
  IntKind.u64.wrap (IntKind.u64.wrap ((z:Int)-((q:Int)*y+c)%4294967296)-d)%4294967296=((z+BB*(if z<(q*y+c)%BB+d then 1 else 0)-(q*y+c)%BB-d:Nat):Int) /\
  IntKind.u64.wrap (IntKind.u64.wrap ((z:Int)-((q:Int)*y+c)%4294967296)-d)/9223372036854775808=((if z<(q*y+c)%BB+d then 1 else 0:Nat):Int) /\
  ((q:Int)*y+c)/4294967296=(((q*y+c)/BB:Nat):Int):=by
 have e:(q:Int)*y+c=((q*y+c:Nat):Int):=by simp[Ycq,Ydr]
 have x:=YaT (q*y+c) CQ;have s:((q:Int)*y+c)%4294967296=(((q*y+c)%BB:Nat):Int):=by rw[e,BF,Ydl];rfl
 have H:((q:Int)*y+c)/4294967296=(((q*y+c)/BB:Nat):Int):=by rw[e,BF,Ydk];rfl
 rw[s,H];rw[BF]at x;obtain⟨A,B⟩:=Yo z ((q*y+c)%BB) d o ZcU C ZcU;exact⟨A,B,rfl⟩
def MsRel(w wr:World)(b:Nat)(pre post u v x:List Nat)(n q k cy A:Nat):Prop:=
 x.length=n+1/\BM x/\Win wr b pre x post/\Only b w wr/\val (x.take k)+q*val (v.take k)=val (u.take k)+BB^k*(cy+A)/\∀i,k<=i->x.getD i 0=u.getD i 0
theorem MsRel.step{w wr:World}{pre post u v x:List Nat}{A q k cy N y z:Nat}(h:MsRel w wr n pre post u v x A q k cy N)(E:k<A)(O:v.getD k 0=y)(o:x.getD k 0=z)(R:z<BB)(F:N<=1){e:Int}
  (b:e=(z+BB*(if z<(q*y+cy)%BB+N then 1 else 0)-(q*y+cy)%BB-N:Nat)) :
  MsRel w (wr.setCell ⟨n,pre.length+k,none⟩ (.int .u32 e)) n pre post u v (x.set k (z+BB*(if z<(q*y+cy)%BB+N then 1 else 0)-(q*y+cy)%BB-N)) A q (k+1) ((q*y+cy)/BB) (if z<(q*y+cy)%BB+N then 1 else 0):=by
 obtain⟨B,C,L,S,G,J⟩:=h;have I:=YaT (q*y+cy) CQ;have g:z+BB*(if z<(q*y+cy)%BB+N then 1 else 0)-(q*y+cy)%BB-N<BB:=by split<;>omega
 have Z:z+BB*(if z<(q*y+cy)%BB+N then 1 else 0)-(q*y+cy)%BB-N+((q*y+cy)%BB+N)=z+BB*(if z<(q*y+cy)%BB+N then 1 else 0):=by split<;>omega
 generalize (if z<(q*y+cy)%BB+N then 1 else 0:Nat)=M at *;generalize V:z+BB*M-(q*y+cy)%BB-N=X at *;refine⟨by simpa using B,Do C k g,by rw[b];exact L.set ZbD X,S.set _ _,?_,λi K=>?_⟩
 .rw [Bg, Dt, Cp ZbD, Bg u, Bg v, O, <-J k (Yah _), o]
  have s:=YcF (q*y+cy) BB
  have H:BB^(k+1)*((q*y+cy)/BB+M)+BB^k*z=BB^k*X+q*(BB^k*y)+BB^k*(cy+N):=by
   have Q:BB*((q*y+cy)/BB+M)+z=X+q*y+(cy+N):=Zhp
   rw[Ybq,YaY,<-YaD,Q,YaD,YaD,Ybj q]
  rw[YaD q];omega
 .rw [<-J i ZbD]
  exact ZaB
theorem Eh(h:l.length=n+1):val l=val (l.take n)+BB^n*l.getD n 0:=by
 have:=Bg l n;rwa [Yap ZbD]at this
theorem MsRel.close1{w wr:World}{b:Nat}{pre post u v x:List Nat}{n q cy K z:Nat}(h:MsRel w wr b pre post u v x n q n cy K)(G:u.length=n+1)(r:v.length=n)(o:x.getD n 0=z)(H:z<BB)(J:cy+K<=z)(I:val u/val v<=q)(f:0<val v){e:Int}(C:e=(z-cy-K:Nat)) :
  ∃N,N.length=n+1/\BM N/\Win (wr.setCell ⟨b,pre.length+n,none⟩ (.int .u32 e)) b pre N post/\Only b w (wr.setCell ⟨b,pre.length+n,none⟩ (.int .u32 e))/\val N+q*val v=val u/\val N<val v:=by
 obtain⟨A,B,L,S,E,F⟩:=h;have i:v.take n=v:=Yap ZbD;rw[i]at E
 have IR:val (x.set n (z-cy-K))+q*val v=val u:=by
  rw[Eh (n:=n) Zdn,Dt,Cp ZbD,Eh G,<-F n (Yah _),o];have:BB^n*z=BB^n*(z-cy-K)+BB^n*(cy+K):=by rw[<-YaD];exact Zhc
  omega
 refine⟨x.set n (z-cy-K),by simpa using A,Do B n ZbD,by rw[C];exact L.set ZbD _,S.set _ _,IR,?_⟩
 have g:val u<(val u/val v+1)*val v:=by
  rw[YaM];exact Yee (val u) f
 have y:(val u/val v+1)*val v<=(q+1)*val v:=YaB _ ZbD;rw[YbC q,YcA]at y;omega
theorem MsRel.close2{w wr:World}{b:Nat}{pre post u v x:List Nat}{n q cy I z:Nat}(h:MsRel w wr b pre post u v x n q n cy I)(G:u.length=n+1)(r:v.length=n)(o:x.getD n 0=z)(Q:z<cy+I)(J:cy+I<=BB){e:Int}(C:e=(z+BB-cy-I:Nat)) :
  (x.set n (z+BB-cy-I)).length=n+1/\BM (x.set n (z+BB-cy-I))/\Win (wr.setCell ⟨b,pre.length+n,none⟩ (.int .u32 e)) b pre (x.set n (z+BB-cy-I)) post/\Only b w (wr.setCell ⟨b,pre.length+n,none⟩ (.int .u32 e))/\val (x.set n (z+BB-cy-I))+q*val v=val u+BB^(n+1):=by
 obtain⟨A,B,L,S,E,F⟩:=h;have i:v.take n=v:=Yap ZbD;rw[i]at E;refine⟨by simpa using A,Do B n ZbD,by rw[C];exact L.set ZbD _,S.set _ _,?_⟩;rw[Eh (n:=n) Zdn,Dt,Cp ZbD,Eh G,<-F n (Yah _),o];have:BB^n*z+BB^n*BB=BB^n*(z+BB-cy-I)+BB^n*(cy+I):=by rw[<-YaD,<-YaD];exact Zhc
 rw[Ybq];omega
def AbRel(w wr:World)(b:Nat)(pre post t v x:List Nat)(n k Q:Nat):Prop:=
 x.length=n+1/\BM x/\Win wr b pre x post/\Only b w wr/\val (x.take k)+BB^k*Q=val (t.take k)+val (v.take k)/\∀i,k<=i->x.getD i 0=t.getD i 0
theorem AbRel.drewN{w wr:World}{pre post t v x:List Nat}{A k Q:Nat}(h:AbRel w wr n pre post t v x A k Q)(q:Nat):AbRel w (wr.drewN q) n pre post t v x A k Q:=
 ⟨h.1,h.2.1,h.2.2.1,h.2.2.2.1.drewN q,h.2.2.2.2.1,h.2.2.2.2.2⟩
theorem AbRel.step{pre post t v x:List Nat}{A k Q y z:Nat}(h:AbRel w q n pre post t v x A k Q)(E:k<A)(O:v.getD k 0=y)(o:x.getD k 0=z)(Z:y<BB)(H:z<BB)(I:Q<=1){e:Int}(b:e=((z+y+Q)%BB:Nat)) :
  AbRel w (q.setCell ⟨n,pre.length+k,none⟩ (.int .u32 e)) n pre post t v (x.set k ((z+y+Q)%BB)) A (k+1) ((z+y+Q)/BB)/\(z+y+Q)/BB<=1:=ZaC
theorem AbRel.close{w wr:World}{b:Nat}{pre post t v x u:List Nat}{n Q z q:Nat}(h:AbRel w wr b pre post t v x n n Q)(J:t.length=n+1)(s0:BM t)(r:v.length=n)(o:x.getD n 0=z)(H:z<BB)(I:Q<=1)
  (c:val t+q*val v=val u+BB^(n+1)) (l:q*val v<val u+val v) {e:Int} (C:e=((z+Q)%BB:Nat)) :
  ∃N,N.length=n+1/\BM N/\Win (wr.setCell ⟨b,pre.length+n,none⟩ (.int .u32 e)) b pre N post/\Only b w (wr.setCell ⟨b,pre.length+n,none⟩ (.int .u32 e))/\1<=q/\val N+(q-1)*val v=val u/\val N<val v:=by
 obtain⟨A,B,L,S,E,F⟩:=h;have i:v.take n=v:=Yap ZbD;rw[i]at E;have P:=Eg s0;rw[J]at P
 have G:1<=q:=by
  rcases Yaz q with h | h
  .subst h;rw[YcC]at c;omega
  .exact h
 have K:(q-1)*val v+val v=q*val v:=by
  exact Zho
 have O:t.getD n 0=z:=by rw[<-F n (Yah _),o]
 have m:=Eh J;rw[O]at m
 have V:val (x.take n)<BB^n:=by
  have:=Eg (Di B n);exact ZjG
 have R:BB^(n+1)=BB^n*BB:=Ybq ..
 have T:val (x.take n)+BB^n*(z+Q)=BB^(n+1)+(val u+val v-q*val v):=by
  exact Zhp
 have M:z+Q=BB:=by
  rcases YaG (z+Q) BB with h | h
  .exfalso
   have g:BB^n*(z+Q+1)<=BB^n*BB:=Yas _ h;rw[YaD,<-R,YbB]at g;omega
  .omega
 rw[M,<-R]at T
 have IR:val (x.set n ((z+Q)%BB))=val u+val v-q*val v:=by
  rw[Eh (n:=n) Zdn,Dt,Cp ZbD,M,Nat.mod_self,Ycu,Ybd];omega
 refine⟨x.set n ((z+Q)%BB),by simpa using A,Do B n (YaT _ CQ),by rw[C];exact L.set ZbD _,S.set _ _,G,?_,?_⟩
 .rw [IR];omega
 .rw [IR];omega
theorem A1K{k:IntKind}{a b:Int}(h:a=b):Ending.returned (.int k a)=.returned (.int k b):=by rw[h]
def A6e(w:World)(b:Nat)(pre post u v:List Nat)(e:Ending)(N:World):Prop:=
 ∃(q:Nat) (x:List Nat),e=.returned (.int .u32 q)/\q<BB/\x.length=u.length/\BM x/\Win N b pre x post/\Only b w N/\val x+q*val v=val u/\val x<val v
def Aal(w:World)(b O N A:Nat)(pre post u v:List Nat)(q r:Value)(p:World):Prop:=
 ∃k h:Nat,q=.int .u64 k/\r=.int .u64 h/\h<4294967296/\k<=8589934592/\Hid (k*O+h=A+BB*N/\val u/val v<=k)/\Hid (Win p b pre u post/\Only b w p)
set_option maxRecDepth 1000000 in
theorem OE(b bv ov n cu cv:Nat)(pre post u v:List Nat)(w:World)(a:Win w b pre u post)(V:u.length=n+1)(I:v.length=n)(xq:2<=n)(f:n<=4398046511104)(su:BM u)(sv:BM v)(xD:bv≠b)
  (xs:∀i,i<n->w.cell? ⟨bv,ov+i,none⟩=some (.int .u32 (v.getD i 0:Nat))) (xB:n+1<=cu) (xw:n<=cv) (xu:2147483648<=v.getD (n-1) 0) (Q:val u<BB*val v) :
  Calls prog 328 #[.slice (some ⟨b,pre.length,none⟩) (n+1) cu,.slice (some ⟨bv,ov,none⟩) n cv] w (A6e w b pre post u v):=by
 obtain⟨m,rfl⟩:∃m,n=m+2:=⟨n-2,by omega⟩;have g:=Af (A8S V I su sv Zef Q);have xp:=a.cell (k:=m+2) ZbD;have xh:=a.cell (k:=m+1) ZbD;have xg:=a.cell (k:=m) ZbD;have xm:=xs (m+1) ZbD;have xj:=xs m ZbD;have xo:=Bd su (m+2);have xz:=Bd su (m+1);have xI:=Bd su m;have xl:=Bd sv (m+1);have xt:=Bd sv m;have xR:2147483648<=v.getD (m+1) 0:=xu;generalize xJ:u.getD (m+2) 0=U0 at *;generalize xK:u.getD (m+1) 0=U1 at *;generalize xG:u.getD m 0=U2 at *;generalize xL:v.getD (m+1) 0=U at *;generalize xM:v.getD m 0=V2 at *;replace xJ:=Af xJ;replace xK:=Af xK;replace xG:=Af xG;replace xL:=Af xL;replace xM:=Af xM;unfold BB at xo xz xI xl xt;replace a:=Af a;replace V:=Af V;replace I:=Af I;replace su:=Af su;replace sv:=Af sv;replace xs:=Af xs;replace Q:=Af Q;clear xu;generalize R:pre.length=P at *;replace R:=Af R;have xQ:=LI (r:=U0) (x:=U1) xo xz;have J:m<=4398046511102:=by omega
 clear f xq;go_enter func328,ntmps328;go_wp2;go_quiet (fail);go_wp2;go_quiet (fail)
 have W:Hid (((U0:Int)*4294967296+U1)/U=((U1+BB*U0)/U:Nat)/\((U0:Int)*4294967296+U1)%U=((U1+BB*U0)%U:Nat)):=by
  have e:(U0:Int)*4294967296+U1=((U1+BB*U0:Nat):Int):=by rw[BF];omega
  exact ZhY
 go_upto_block 0 with(fail)
 rw[W.out.1,W.out.2];go_cut [7,8] (λq r wx=>∃qn:Nat,q=.int .u64 qn/\qn<4294967296/\Hid (val u/val v<=qn/\qn*val v<val u+val v)/\Hid (Win wx b pre u post/\Only b w wx))
 case first=>
  go_wp2;go_loopw [7,8] (λq r wx=>Aal w b U U0 U1 pre post u v q r wx) (λq _ _=>(intOf q).toNat)
  case atStart=>
   have xi:0<U:=by omega
   refine⟨_,_,rfl,rfl,?_,?_,⟨?_,?_⟩,?_⟩
   .have:=YaT (U1+BB*U0) xi;omega
   .refine YbT (Ybw ?_)
    have:2147483648*8589934592<=U*8589934592:=YaB _ xR;rw[BF];omega
   .rw [YaM];exact YcV _ _
   .exact g.out.start
   .exact ⟨a.out,((Only.refl _ _).drewN _).drewN _⟩
  case round=>
   obtain⟨q,r,rfl,rfl,X,l,N,j⟩:=hrel
   have g2:wr.cell? ⟨b,P+m,none⟩=some (.int .u32 (U2:Nat)):=by
    have:=j.out.1.cell (k:=m) (by rw[V.out];omega);rw[R.out,xG.out]at this;exact this
   have g1:wr.cell? ⟨bv,ov+(m+1),none⟩=some (.int .u32 (U:Nat)):=j.out.2.cellv xD xm;have g3:wr.cell? ⟨bv,ov+m,none⟩=some (.int .u32 (V2:Nat)):=j.out.2.cellv xD xj;have xS:=LI (r:=r) (x:=U2) X xI;clear xp xh xg xm xj xQ;have xN:=Af (λM=>g.out.down N.out.1 N.out.2 (q:=q) (r:=r) M);have xf:Hid (∀q' Y,q'*U+Y=U1+BB*U0->val u/val v<=q'->q'<BB->q'*V2<=Y*BB+U2->val u/val v<=q'/\q'*val v<val u+val v):=λq' Y A B L S=>⟨B,g.out.after A L S⟩;have xO:Hid (∀q' Y,q'*U+Y=U1+BB*U0->BB<=Y->q'<BB/\q'*V2<=Y*BB+U2):=λq' Y A B=>g.out.great A B;by_cases xk:4294967296<=q
   .have xx:decide ((4294967296:Int)<=q)=true:=Zip
    replace xk:=Af xk;replace l:=Af l;have E:=Af (xN.out (.inl (by rw[BF];exact xk.out)));by_cases xd:4294967296<=r+U
    .have xF:(4294967296:Int)<=(r:Int)+U:=by omega
     replace xd:=Af xd;go_wp2;go_quiet (fail);have xc:(1:Int)<=q:=by have:=xk.out;omega
     have xy:(q:Int)<=8589934592:=by have:=l.out;omega
     clear xx;go_wp2;go_meet
     case rel=>
      exact Zgm
    .have xF:decide ((4294967296:Int)<=(r:Int)+U)=false:=Zip
     replace xd:=Af xd;go_wp2;go_quiet (fail);have xc:(1:Int)<=q:=by have:=xk.out;omega
     have xy:(q:Int)<=8589934592:=by have:=l.out;omega
     clear xx;exact Zgt
   .have xx:decide ((4294967296:Int)<=q)=false:=Zip
    have xE:q<4294967296:=by omega
    replace xk:=Af xk;replace l:=Af l;have G:(q:Int)*V2<=18446744065119617025:=by have:=FP xE xt;omega
    have xn:(0:Int)<=(q:Int)*V2:=Yco ZbD ZbD;by_cases xv:r*4294967296+U2<q*V2
    .have xC:decide ((r:Int)*4294967296+U2<(q:Int)*V2)=true:=Zip
     have E:=Af (xN.out (.inr (by rw[BF];exact xv)));replace xv:=Af xv;have xc:(1:Int)<=q:=by have:=E.out.1;omega
     by_cases xd:4294967296<=r+U
     .have xF:decide ((4294967296:Int)<=(r:Int)+U)=true:=Zip
      replace xd:=Af xd;go_wp2;go_quiet (fail);clear G xn xC xx xS;go_wp2;go_meet
      case rel=>
       exact Zgm
     .have xF:decide ((4294967296:Int)<=(r:Int)+U)=false:=Zip
      replace xd:=Af xd;go_wp2;go_quiet (fail);clear G xn xC xx xS;exact Zgt
    .have xC:decide ((r:Int)*4294967296+U2<(q:Int)*V2)=false:=Zip
     replace xv:=Af xv;go_wp2;go_quiet (fail);go_wp2;go_meet
     case rel=>exact⟨q,rfl,xE,xf.out _ _ N.out.1 N.out.2 (by rw[BF];exact xE) (by have:=xv.out;rw[BF];omega),j.out.1,j.out.2.drewN _⟩
 case rest=>
  obtain⟨q,rfl,l,N,j⟩:=hcut;clear xp xh xg xm xj xQ;go_wp2;obtain⟨wo,rfl⟩:∃wo:World,wo=wc:=⟨_,rfl⟩;go_loopw [9,10,83] (λcy p i wr=>∃(k c d:Nat) (x:List Nat),k<=m+2/\i=.int .i64 k/\cy=.int .u64 c/\p=.int .u64 d/\c<4294967296/\d<=1/\Hid (MsRel w wr b pre post u v x (m+2) q k c d)) (λ_ _ i _=>m+2-(intOf i).toNat)
  case atStart=>exact⟨0,0,0,u,Yaw _,rfl,rfl,rfl,by omega,by omega,V.out,su.out,j.out.1,j.out.2,by simp[val],λ_ _=>rfl⟩
  case round=>
   obtain⟨k,c,d,x,C,rfl,rfl,rfl,xA,xr,Z⟩:=hrel;by_cases Q:k<m+2
   .have g1:wr.cell? ⟨bv,ov+k,none⟩=some (.int .u32 (v.getD k 0:Nat)):=Z.out.2.2.2.1.cellv xD (xs.out k Q)
    have g2:wr.cell? ⟨b,P+k,none⟩=some (.int .u32 (x.getD k 0:Nat)):=by
     have:=Z.out.2.2.1.cell (k:=k) ZeC;exact Zit
    have g3:=Z.out.2.2.1.frozen (P+k);have xb:=Bd sv.out k;have xe:=Bd Z.out.2.1 k;generalize O:v.getD k 0=y at *;generalize o:x.getD k 0=z at *;replace O:=Af O;replace o:=Af o;unfold BB at xb xe;have G:(q:Int)*y<=18446744065119617025:=by have:=FP l xb;omega
    have xn:(0:Int)<=(q:Int)*y:=Yco ZbD ZbD;have xa:=Af (A9u (q:=q) (y:=y) (c:=c) (z:=z) (d:=d) xe xr)
    have xH:Hid ((q*y+c)/BB<4294967296):=by
     have:=FP l xb;show _/BB<4294967296;rw[BF];omega
    go_wp2;rw[xa.out.1,xa.out.2.1,xa.out.2.2];have:=Z.out.step Q O.out o.out ZeI xr (cy:=c) rfl;rw[R.out]at this;exact⟨⟨k+1,_,_,_,Q,by simp,rfl,rfl,xH.out,by split<;>omega,this⟩,by simp[intOf];omega⟩
   .obtain rfl:k=m+2:=by omega
    have g2:wr.cell? ⟨b,P+(m+2),none⟩=some (.int .u32 (x.getD (m+2) 0:Nat)):=by
     have:=Z.out.2.2.1.cell (k:=m+2) ZeC;exact Zit
    have g3:=Z.out.2.2.1.frozen (P+(m+2));have xe:=Bd Z.out.2.1 (m+2);generalize o:x.getD (m+2) 0=z at *;replace o:=Af o;unfold BB at xe;have xa:=Af (Yo z c d xe ZbD xr ZbD);by_cases h:c+d<=z
    .go_wp2
     go_ret;obtain⟨H,A,B,L,S,F,K⟩:=Z.out.close1 V.out I.out o.out ZeI h N.out.1 g.out.v_pos (e:=(z:Int)-c-d) ZbD;rw[R.out]at L S;exact⟨q,H,rfl,by rw[BF];exact l,A.trans V.out.symm,B,L,S,F,K⟩
    .have xT:(IntKind.u64.wrap (IntKind.u64.wrap ((z:Int)-c)-d)/9223372036854775808==0)=false:=by
      rw[xa.out.2,Yan ZbD];rfl
     have s:=Z.out.close2 V.out I.out o.out ZbD ZcU (e:=IntKind.u64.wrap (IntKind.u64.wrap ((z:Int)-c)-d)%4294967296) (by rw[xa.out.1,Yan ZbD,YbB]);rw[R.out]at s;generalize x.set (m+2) (z+BB-c-d)=t at s;replace s:=Af s;replace h:=Af h;go_wp2;obtain⟨wp,xP⟩:∃wp:World,wp=wr.setCell ⟨b,P+(m+2),none⟩ (.int .u32 (IntKind.u64.wrap (IntKind.u64.wrap ((z:Int)-c)-d)%4294967296)):=⟨_,rfl⟩;rw[<-xP]at s;rw[<-xP];clear xP xT xa g2 g3 Z;go_loopw [9,136] (λcy i wr=>∃(k c:Nat) (x:List Nat),k<=m+2/\i=.int .i64 k/\cy=.int .u64 c/\c<=1/\Hid (AbRel w wr b pre post t v x (m+2) k c)) (λ_ i _=>m+2-(intOf i).toNat)
     case atStart=>exact⟨0,0,t,Yaw _,rfl,rfl,by omega,s.out.1,s.out.2.1,s.out.2.2.1,s.out.2.2.2.1,by simp[val],λ_ _=>rfl⟩
     case round=>
      obtain⟨k,c,x,C,rfl,rfl,xh,Z⟩:=hrel;by_cases Q:k<m+2
      .have g1:wr.cell? ⟨bv,ov+k,none⟩=some (.int .u32 (v.getD k 0:Nat)):=Z.out.2.2.2.1.cellv xD (xs.out k Q)
       have g2:wr.cell? ⟨b,P+k,none⟩=some (.int .u32 (x.getD k 0:Nat)):=by
        have:=Z.out.2.2.1.cell (k:=k) ZeC;exact Zit
       have g3:=Z.out.2.2.1.frozen (P+k);have xb:=Bd sv.out k;have xe:=Bd Z.out.2.1 k;generalize O:v.getD k 0=y at *;generalize o:x.getD k 0=z at *;replace O:=Af O;replace o:=Af o;unfold BB at xb xe;go_wp2;go_quiet (fail);go_wp2;have A:=(Z.out.drewN nq).step Q O.out o.out (by rw[BF];exact xb) ZeI xh (e:=((z:Int)+y+c)%4294967296) ZcU;rw[R.out]at A;exact⟨⟨k+1,(z+y+c)/BB,_,Q,by simp,by rw[BF];congr 1,A.2,A.1⟩,by simp[intOf];omega⟩
      .obtain rfl:k=m+2:=by omega
       have g2:wr.cell? ⟨b,P+(m+2),none⟩=some (.int .u32 (x.getD (m+2) 0:Nat)):=by
        have:=Z.out.2.2.1.cell (k:=m+2) ZeC;exact Zit
       have g3:=Z.out.2.2.1.frozen (P+(m+2));have xe:=Bd Z.out.2.1 (m+2);generalize o:x.getD (m+2) 0=z at *;replace o:=Af o;unfold BB at xe;obtain⟨H,A,B,L,S,xc,F,K⟩:=Z.out.close s.out.1 s.out.2.1 I.out o.out ZeI xh s.out.2.2.2.2 N.out.2 (e:=((z:Int)+c)%4294967296) ZcU;rw[R.out]at L S;have T:=Af (And.intro A (And.intro B (And.intro L (And.intro S (And.intro F K)))));clear A B L S F K;go_wp2;go_ret;exact⟨q-1,H,A1K ZbD,by rw[BF];omega,T.out.1.trans V.out.symm,T.out.2.1,T.out.2.2.1,T.out.2.2.2.1,T.out.2.2.2.2.1,T.out.2.2.2.2.2⟩
theorem A2z(x y Q:Nat)(E:x<4294967296)(O:y<4294967296)(I:Q<=1) :
  IntKind.u64.wrap (4294967296+(x:Int))=4294967296+(x:Int)/\IntKind.u64.wrap (4294967296+(x:Int)-y)=4294967296+(x:Int)-y/\IntKind.u64.wrap (4294967296+(x:Int)-y-Q)=4294967296+(x:Int)-y-Q /\
  (4294967296+(x:Int)-y-Q)%4294967296=((x+BB*(if x<Q+y then 1 else 0)-Q-y:Nat):Int)/\(4294967296+(x:Int)-y-Q)%4294967296%4294967296=((x+BB*(if x<Q+y then 1 else 0)-Q-y:Nat):Int) /\
  1-(4294967296+(x:Int)-y-Q)/4294967296=((if x<Q+y then 1 else 0:Nat):Int):=by
 simp only[IntKind.wrap_u64,BF];refine⟨by omega,by omega,by omega,?_,?_,?_⟩<;>(split<;>omega)
theorem A2w(x y z Q:Nat)(E:x<4294967296)(O:y<4294967296)(o:z<4294967296)(I:Q<4294967296) :
  IntKind.u64.wrap ((x:Int)*y)=(x:Int)*y/\IntKind.u64.wrap ((x:Int)*y+z)=(x:Int)*y+z/\IntKind.u64.wrap ((x:Int)*y+z+Q)=(x:Int)*y+z+Q/\0<=(x:Int)*y/\0<=(x:Int)*y+z+Q/\(x:Int)*y+z+Q<=18446744073709551615:=by
 have G:(x:Int)*y<=18446744065119617025:=by have:=FP E O;omega
 have Y:(0:Int)<=(x:Int)*y:=Yco ZbD ZbD;generalize (x:Int)*y=p at *;simp only[IntKind.wrap_u64];omega
theorem A0C(P vb:Value)(h q:List Nat)(w:World)(p:Words w P h)(F:Words w vb q)(R:val q<=val h)(J:q.length<=h.length)(f:h.length<=4398046511104) :
  Calls prog 277 #[P,vb] w λe N=>∃j,e=.returned j/\Words N j (As (val h-val q))/\Ext w N:=by
 obtain⟨A,c,rfl,I,X,E⟩:=p.open_;obtain⟨B,d,rfl,G,xo,O⟩:=F.open_;have Ha:=Af p;have Hb:=Af F;have xg:=Af p.small;have xm:=Af F.small;clear p F;have hA:=Af E;have hB:=Af O;clear E O;replace R:=Af R;obtain⟨n,u⟩:∃n,n=h.length:=⟨_,rfl⟩;obtain⟨m,U⟩:∃m,m=q.length:=⟨_,rfl⟩;rw[<-u]at I J f ⊢;rw[<-U]at G J ⊢;replace u:=Af u;replace U:=Af U;have xk:=λW=>CA n ZbD .i64 .i64 W;go_enter func277,ntmps277;go_wp2;go_loopw [6,7] (λcy i wr=>∃(k a:Nat) (r:List Nat),k<=n/\i=.int .i64 k/\cy=.int .u64 a/\a<=1/\Hid (DifRel w wr h q r n k a)) (λ_ i _=>n-(intOf i).toNat)
 case atStart=>exact⟨0,0,List.replicate n 0,Yaw _,rfl,rfl,by omega,⟨by simp,Cu _,Blk.new _ _ _,by simp[val],(Ext.refl _).alloc _⟩⟩
 case round=>
  obtain⟨k,a,r,C,rfl,rfl,xh,Y⟩:=hrel;by_cases Q:k<n
  .have xp:decide ((k:Int)<n)=true:=by simpa using Q
   obtain⟨b,o,rfl,F,z⟩:=hA.out (by rw[<-u.out];omega);replace z:=(Y.out.2.2.2.2.cell (p:=⟨b,o+k,none⟩) F).trans (z k (by rw[<-u.out];omega));have xc:=Bd xg.out k;have xf:=Bd xm.out k;generalize E:h.getD k 0=x at *;generalize O:q.getD k 0=y at *;replace E:=Af E;replace O:=Af O;unfold BB at xc xf;have Hw:Hid (Words wr (.slice B m d) q):=by rw[U.out];exact Hb.out.ext Y.out.2.2.2.2
   have xe:=Af (A2z x y a xc xf xh);have K:¬n<=k:=by omega
   have xn:Hid (IntKind.u64.wrap (x:Int)=x):=Af (IntWalk.u64_in _ ZbD);have xj:(4294967296:Int)+x-y-a<=8589934591:=by omega
   have xi:0<=(4294967296:Int)+x-y-a:=by omega
   go_upto_region 6 with(fail)
   refine wp_region_v ZbI [[], [], [(18, 0), (19, 1)], [(20, 2)], [(21, 3)], [(22, 4)], [], [], [(24, 6), (25, 7)], [(23, 5), (26, 8)], [], [(27, 9), (28, 10)]] [[], [], [0, 1], [0, 1, 2], [0, 1, 2, 3], [0, 1, 2, 3, 4], [], [], [6, 7], [0, 1, 2, 3, 4, 5, 6, 7, 8], [], [0, 1, 2, 3, 4, 5, 6, 7, 8, 9, 10]]
    [λv _=>v=.slice (some ⟨b,o,none⟩) n c,λv _=>v=.int .i64 (k:Int),λv _=>v=.pointer (some ⟨b,o+k,none⟩),λv _=>v=.int .u32 (x:Int),λv _=>v=.int .u64 (x:Int),λv _=>v=.int .u64 (4294967296+(x:Int)),λv _=>v=.slice B m d,λv _=>v=.int .i64 (k:Int),λv _=>v=.int .u64 (y:Int),λv _=>v=.int .u64 (4294967296+(x:Int)-y),λv _=>v=.int .u64 (a:Int),λv _=>v=.int .u64 (4294967296+(x:Int)-y-a)]
    rfl ZbI ZbI ?stab ?steps ?fin
   case stab=>exact .cons (Stab.eq _) (.cons (Stab.eq _) (.cons (Stab.eq _) (.cons (Stab.eq _) (.cons (Stab.eq _) (.cons (Stab.eq _) (.cons (Stab.eq _) (.cons (Stab.eq _) (.cons (Stab.eq _) (.cons (Stab.eq _) (.cons (Stab.eq _) (.cons (Stab.eq _) .nil)))))))))))
   case steps=>
    refine .cons ?s0 (.cons ?s1 (.cons ?s2 (.cons ?s3 (.cons ?s4 (.cons ?s5 (.cons ?s6 (.cons ?s7 (.cons ?s8 (.cons ?s9 (.cons ?s10 (.cons ?s11 .nil)))))))))))
    case s0=>
     intro N L V C p I S;have H:L (.tmp 0)=.slice (some ⟨b,o,none⟩) n c:=p 0 ZbH;exact AD ZdA rfl
    case s1=>
     intro N L V C p I S;exact Ziy
    case s2=>
     intro N L V C p I S;have xt:L (.tmp 18)=.slice (some ⟨b,o,none⟩) n c:=C.1 _ rfl;have xu:L (.tmp 19)=.int .i64 (k:Int):=C.2.1 _ rfl;exact AD (by simp[execOp,xt,xu,K,go_sem]) rfl
    case s3=>
     intro N L V C p I S;have xr:L (.tmp 20)=.pointer (some ⟨b,o+k,none⟩):=C.1 _ rfl;have g:N.cell? ⟨b,o+k,none⟩=some (.int .u32 (x:Int)):=V.cellv z;exact AD (by simp[execOp,xr,g,go_sem]) rfl
    case s4=>
     intro N L V C p I S;have xv:L (.tmp 21)=.int .u32 (x:Int):=C.1 _ rfl;exact AD (by simp[execOp,xv,xn.out,go_sem]) rfl
    case s5=>
     intro N L V C p I S;have xw:L (.tmp 22)=.int .u64 (x:Int):=C.1 _ rfl;exact AD (by simp[execOp,xw,I,xe.out.1,go_sem]) rfl
    case s6=>
     intro N L V C p I S;have Z:L (.tmp 1)=.slice B m d:=p 1 ZbH;exact AD Zdm rfl
    case s7=>
     intro N L V C p I S;exact Ziy
    case s8=>
     intro N L V C p I S;have xz:L (.tmp 24)=.slice B m d:=C.1 _ rfl;have xA:L (.tmp 25)=.int .i64 (k:Int):=C.2.1 _ rfl;refine CF (by simp[execOp,resolve,invoke,S,xz,xA,go_sem]) (Ij _ q k y _ (Hw.out.ext ((Ext.refl _).drew.trans V)) O.out) ?_;rintro e l ⟨rfl,rfl⟩;exact⟨_,rfl,Ext.refl _,rfl⟩
    case s9=>
     intro N L V C p I S;have xy:L (.tmp 23)=.int .u64 (4294967296+(x:Int)):=C.1 _ rfl;have xB:L (.tmp 26)=.int .u64 (y:Int):=C.2.1 _ rfl;exact AD (by simp[execOp,xy,xB,xe.out.2.1,go_sem]) rfl
    case s10=>
     intro N L V C p I S;have e6:L (.tmp 6)=.int .u64 (a:Int):=p 6 ZbH;exact AD ZeM rfl
    case s11=>
     intro N L V C p I S;have xC:L (.tmp 27)=.int .u64 (4294967296+(x:Int)-y):=C.1 _ rfl;have xx:L (.tmp 28)=.int .u64 (a:Int):=C.2.1 _ rfl;exact AD (by simp[execOp,xC,xx,xe.out.2.2.1,go_sem]) rfl
   case fin=>
    intro gf N V hF;have xq:=hF 11 _ rfl;simp only[Yav,Ybv,Nat.reduceAdd,Ybp,YaU,Ybi,YbX,FA,Act.put,Yba,Yby,YbN,xq];replace V:=Af ((Ext.refl _).drew.trans V);have xs:Hid (DifRel w N h q r n k a):=⟨Y.out.1,Y.out.2.1,Y.out.2.2.1.ext V.out,Y.out.2.2.2.1,Y.out.2.2.2.2.trans V.out⟩;have T:N.cell? ⟨w.heap.size,k,none⟩=some (.int .u32 (r.getD k 0:Nat)):=by rw[xs.out.2.2.1.cell,Ea (by rw[xs.out.1];omega)]
    have xd:=xs.out.2.2.1.frozen k;clear hF xq V Y Hw;obtain⟨t,M⟩:∃t:Int,t=4294967296+(x:Int)-y-a:=⟨_,rfl⟩;rw[<-M]at xj xi xe ⊢;replace M:=Af M;generalize r.getD k 0=xl at *;go_wp2;exact⟨xs.out.step Q E.out O.out xc xf xh (by first | exact xe.out.2.2.2.1 | exact xe.out.2.2.2.2.1) xe.out.2.2.2.2.2,by simp[intOf];omega⟩
  .obtain rfl:k=n:=by omega
   have xa:=Af (Y.out.close u.out.symm (by rw[<-U.out];exact J) R.out)
   have s:Hid (Words wr (.slice (some ⟨w.heap.size,0,none⟩) k k) r):=by
    have:=CI (c:=k) Y.out.2.2.1 Y.out.2.1 Zfn ZbD;rw[Y.out.1]at this;exact this
   go_wp2_with (go_at_call 288;refine(FT _ _ _ s.out).mono ?_;rintro e N ⟨j,rfl,xb,V⟩);go_ret;refine⟨j,rfl,?_,Y.out.2.2.2.2.trans V⟩;rw[Bn Y.out.2.1,xa.out]at xb;exact xb
theorem Ks(va vb:Value)(l P:List Nat)(w:World)(p:Words w va l)(G:Words w vb P)(f:l.length<=4398046511104)(M:P.length<=4398046511104) :
  Calls prog 278 #[va,vb] w λe N=>∃s,e=.returned s/\Words N s (As (val l*val P))/\Ext w N:=by
 obtain⟨A,c,rfl,I,xt,F⟩:=p.open_;obtain⟨B,d,rfl,J,xA,O⟩:=G.open_;have xl:=Af p.small;have xr:=Af G.small;clear p G;have hA:=Af F;have hB:=Af O;clear F O;obtain⟨n,xa⟩:∃n,n=l.length:=⟨_,rfl⟩;obtain⟨m,xc⟩:∃m,m=P.length:=⟨_,rfl⟩;rw[<-xa]at I f ⊢;rw[<-xc]at J M ⊢;replace xa:=Af xa;replace xc:=Af xc;have xq:=λW=>CA (n+m) ZbD .i64 .i64 W;simp only[Ycq]at xq;go_enter func278,ntmps278;go_wp2;go_loopw [6] (λi wr=>∃(k:Nat) (r:List Nat),k<=n/\i=.int .i64 k/\Hid (A1b w wr l P r n m k)) (λi _=>n-(intOf i).toNat)
 case atStart => exact ⟨0, List.replicate (n + m) 0, Yaw _, rfl, by simp, Cu _, Blk.new _ _ _, by
  have:∀q,val (List.replicate q 0)=0:=λq=>by
   induction q with
   |zero=>rfl
   |succ q H=>simp[YdY,val,H]
  simp[val,List.take_replicate,this],(Ext.refl _).alloc _⟩
 case round=>
  obtain⟨k,r,E,rfl,Y⟩:=hrel;by_cases Q:k<n
  .obtain ⟨b, o, rfl, G, xb⟩:=hA.out (by rw [<-xa.out]; omega)
   replace xb:=(Y.out.2.2.2.2.cell (p:=⟨b,o+k,none⟩) G).trans (xb k (by rw[<-xa.out];omega));have xg:=Bd xl.out k;generalize F:l.getD k 0=x at *;replace F:=Af F;unfold BB at xg;go_wp2;obtain⟨wo,rfl⟩:∃wo:World,wo=wr:=⟨_,rfl⟩;go_loopw [7,8] (λcy i wr=>∃(j g:Nat) (r:List Nat),j<=m/\i=.int .i64 j/\cy=.int .u64 g/\g<4294967296/\Hid (MulIn w wr l P r n m k j x g)) (λ_ i _=>m-(intOf i).toNat)
   case atStart=>exact⟨0,0,r,Yaw _,rfl,rfl,by omega,Y.out.1,Y.out.2.1,Y.out.2.2.1,by simp[val,Y.out.2.2.2.1],Y.out.2.2.2.2⟩
   case round=>
    obtain⟨j,g,r,a,rfl,rfl,xm,u⟩:=hrel;by_cases xw:j<m
    .obtain ⟨S, R, rfl, xd, xs⟩:=hB.out (by rw [<-xc.out]; omega)
     replace xs:=(u.out.2.2.2.2.cell (p:=⟨S,R+j,none⟩) xd).trans (xs j (by rw[<-xc.out];omega));have xj:=Bd xr.out j;have xk:=Bd u.out.2.1 (k+j);have X:wr.cell? ⟨w.heap.size,k+j,none⟩=some (.int .u32 (r.getD (k+j) 0:Nat)):=by rw[u.out.2.2.1.cell,Ea (by rw[u.out.1];omega)]
     have xh:=u.out.2.2.1.frozen (k+j);generalize O:P.getD j 0=y at *;generalize L:r.getD (k+j) 0=z at *;replace O:=Af O;replace L:=Af L;unfold BB at xj xk;have xF:wr.cell? ⟨b,o+k,none⟩=some (.int .u32 (x:Int)):=(u.out.2.2.2.2.cell (p:=⟨b,o+k,none⟩) G).trans ((Y.out.2.2.2.2.cell (p:=⟨b,o+k,none⟩) G).symm.trans xb);have xi:=Af (A2w x y z g xg xj xk xm);have xo:(x:Int)*y+z+g<=18446744073709551615:=xi.out.2.2.2.2.2;have xn:0<=(x:Int)*y+z+g:=xi.out.2.2.2.2.1;have xG:¬n<=k:=by omega
     have xu:¬m<=j:=by omega
     have xH:¬n+m<=k+j:=by omega
     have xy:IntKind.i64.wrap ((k:Int)+j)=(k:Int)+j:=IntWalk.i64_in _ ZbD;have xz:((k:Int)+j).toNat=k+j:=by omega
     have xI:(k:Int)+j<(n:Int)+m:=by omega
     have xJ:0<=(k:Int)+j:=by omega
     have xC:Hid (IntKind.u64.wrap (x:Int)=x):=Af (IntWalk.u64_in _ ZbD);have xD:Hid (IntKind.u64.wrap (y:Int)=y):=Af (IntWalk.u64_in _ ZbD);have xE:Hid (IntKind.u64.wrap (z:Int)=z):=Af (IntWalk.u64_in _ ZbD);replace xy:=Af xy;replace xz:=Af xz;go_upto_region 9 with(fail)
     refine wp_region_v ZbI [[], [], [(28, 0), (29, 1)], [(30, 2)], [(31, 3)], [], [], [(33, 5), (34, 6)], [(35, 7)], [(36, 8)], [(32, 4), (37, 9)], [], [], [], [(40, 12), (41, 13)], [(39, 11), (42, 14)], [(43, 15)], [(44, 16)], [(38, 10), (45, 17)], [], [(46, 18), (47, 19)]] [[], [], [0, 1], [0, 1, 2], [0, 1, 2, 3], [], [], [5, 6], [5, 6, 7], [5, 6, 7, 8], [0, 1, 2, 3, 4, 5, 6, 7, 8, 9], [], [], [], [12, 13], [11, 12, 13, 14], [11, 12, 13, 14, 15], [11, 12, 13, 14, 15, 16], [0, 1, 2, 3, 4, 5, 6, 7, 8, 9, 10, 11, 12, 13, 14, 15, 16, 17], [], [0, 1, 2, 3, 4, 5, 6, 7, 8, 9, 10, 11, 12, 13, 14, 15, 16, 17, 18, 19]]
      [λv _=>v=.slice (some ⟨b,o,none⟩) n c,λv _=>v=.int .i64 (k:Int),λv _=>v=.pointer (some ⟨b,o+k,none⟩),λv _=>v=.int .u32 (x:Int),λv _=>v=.int .u64 (x:Int),λv _=>v=.slice (some ⟨S,R,none⟩) m d,λv _=>v=.int .i64 (j:Int),λv _=>v=.pointer (some ⟨S,R+j,none⟩),λv _=>v=.int .u32 (y:Int),λv _=>v=.int .u64 (y:Int),λv _=>v=.int .u64 ((x:Int)*y),λv _=>v=.slice (some ⟨w.heap.size,0,none⟩) (n+m) (n+m),λv _=>v=.int .i64 (k:Int),λv _=>v=.int .i64 (j:Int),λv _=>v=.int .i64 ((k:Int)+j),λv _=>v=.pointer (some ⟨w.heap.size,k+j,none⟩),λv _=>v=.int .u32 (z:Int),λv _=>v=.int .u64 (z:Int),λv _=>v=.int .u64 ((x:Int)*y+z),λv _=>v=.int .u64 (g:Int),λv _=>v=.int .u64 ((x:Int)*y+z+g)]
      rfl ZbI ZbI ?stab ?steps ?fin
     case stab=>exact .cons (Stab.eq _) (.cons (Stab.eq _) (.cons (Stab.eq _) (.cons (Stab.eq _) (.cons (Stab.eq _) (.cons (Stab.eq _) (.cons (Stab.eq _) (.cons (Stab.eq _) (.cons (Stab.eq _) (.cons (Stab.eq _) (.cons (Stab.eq _) (.cons (Stab.eq _) (.cons (Stab.eq _) (.cons (Stab.eq _) (.cons (Stab.eq _) (.cons (Stab.eq _) (.cons (Stab.eq _) (.cons (Stab.eq _) (.cons (Stab.eq _) (.cons (Stab.eq _) (.cons (Stab.eq _) .nil))))))))))))))))))))
     case steps=>
      refine .cons ?s0 (.cons ?s1 (.cons ?s2 (.cons ?s3 (.cons ?s4 (.cons ?s5 (.cons ?s6 (.cons ?s7 (.cons ?s8 (.cons ?s9 (.cons ?s10 (.cons ?s11 (.cons ?s12 (.cons ?s13 (.cons ?s14 (.cons ?s15 (.cons ?s16 (.cons ?s17 (.cons ?s18 (.cons ?s19 (.cons ?s20 .nil))))))))))))))))))))
      case s0=>
       intro N K V E p I t;have e0:K (.tmp 0)=.slice (some ⟨b,o,none⟩) n c:=p 0 ZbH;exact AD (by simp[execOp,e0,go_sem]) rfl
      case s1=>
       intro N K V E p I t;exact Ziz
      case s2=>
       intro N K V E p I t;have xB:K (.tmp 28)=.slice (some ⟨b,o,none⟩) n c:=E.1 _ rfl;have xK:K (.tmp 29)=.int .i64 (k:Int):=E.2.1 _ rfl;exact AD (by simp[execOp,xB,xK,xG,go_sem]) rfl
      case s3=>
       intro N K V E p I t;have xL:K (.tmp 30)=.pointer (some ⟨b,o+k,none⟩):=E.1 _ rfl;have h:N.cell? ⟨b,o+k,none⟩=some (.int .u32 (x:Int)):=V.cellv xF;exact AD (by simp[execOp,xL,h,go_sem]) rfl
      case s4=>
       intro N K V E p I t;have xM:K (.tmp 31)=.int .u32 (x:Int):=E.1 _ rfl;exact AD (by simp[execOp,xM,xC.out,go_sem]) rfl
      case s5=>
       intro N K V E p I t;have Z:K (.tmp 1)=.slice (some ⟨S,R,none⟩) m d:=p 1 ZbH;exact AD Zdm rfl
      case s6=>
       intro N K V E p I t;exact ZiA
      case s7=>
       intro N K V E p I t;have xO:K (.tmp 33)=.slice (some ⟨S,R,none⟩) m d:=E.1 _ rfl;have xP:K (.tmp 34)=.int .i64 (j:Int):=E.2.1 _ rfl;exact AD (by simp[execOp,xO,xP,xu,go_sem]) rfl
      case s8=>
       intro N K V E p I t;have xQ:K (.tmp 35)=.pointer (some ⟨S,R+j,none⟩):=E.1 _ rfl;have h:N.cell? ⟨S,R+j,none⟩=some (.int .u32 (y:Int)):=V.cellv xs;exact AD (by simp[execOp,xQ,h,go_sem]) rfl
      case s9=>
       intro N K V E p I t;have xR:K (.tmp 36)=.int .u32 (y:Int):=E.1 _ rfl;exact AD (by simp[execOp,xR,xD.out,go_sem]) rfl
      case s10=>
       intro N K V E p I t;have xN:K (.tmp 32)=.int .u64 (x:Int):=E.1 _ rfl;have xS:K (.tmp 37)=.int .u64 (y:Int):=E.2.1 _ rfl;exact AD (by simp[execOp,xN,xS,xi.out.1,go_sem]) rfl
      case s11=>
       intro N K V E p I t;have e5:K (.tmp 5)=.slice (some ⟨w.heap.size,0,none⟩) (n+m) (n+m):=p 5 ZbH;exact AD (by simp[execOp,e5,go_sem]) rfl
      case s12=>
       intro N K V E p I t;exact Ziz
      case s13=>
       intro N K V E p I t;exact ZiA
      case s14=>
       intro N K V E p I t;have xV:K (.tmp 40)=.int .i64 (k:Int):=E.1 _ rfl;have xW:K (.tmp 41)=.int .i64 (j:Int):=E.2.1 _ rfl;exact AD (by simp[execOp,xV,xW,xy.out,go_sem]) rfl
      case s15=>
       intro N K V E p I t;have xU:K (.tmp 39)=.slice (some ⟨w.heap.size,0,none⟩) (n+m) (n+m):=E.1 _ rfl;have xX:K (.tmp 42)=.int .i64 ((k:Int)+j):=E.2.1 _ rfl;exact AD (by simp[execOp,xU,xX,xH,xz.out,xI,xJ,go_sem]) rfl
      case s16=>
       intro N K V E p I t;have xY:K (.tmp 43)=.pointer (some ⟨w.heap.size,k+j,none⟩):=E.1 _ rfl;have h:N.cell? ⟨w.heap.size,k+j,none⟩=some (.int .u32 (z:Int)):=V.cellv X;exact AD (by simp[execOp,xY,h,go_sem]) rfl
      case s17=>
       intro N K V E p I t;have xZ:K (.tmp 44)=.int .u32 (z:Int):=E.1 _ rfl;exact AD (by simp[execOp,xZ,xE.out,go_sem]) rfl
      case s18=>
       intro N K V E p I t;have xT:K (.tmp 38)=.int .u64 ((x:Int)*y):=E.1 _ rfl;have ya:K (.tmp 45)=.int .u64 (z:Int):=E.2.1 _ rfl;exact AD (by simp[execOp,xT,ya,xi.out.2.1,go_sem]) rfl
      case s19=>
       intro N K V E p I t;have e7:K (.tmp 7)=.int .u64 (g:Int):=p 7 ZbH;exact AD ZeN rfl
      case s20=>
       intro N K V E p I t;have yb:K (.tmp 46)=.int .u64 ((x:Int)*y+z):=E.1 _ rfl;have yc:K (.tmp 47)=.int .u64 (g:Int):=E.2.1 _ rfl;exact AD (by simp[execOp,yb,yc,xi.out.2.2.1,go_sem]) rfl
     case fin=>
      intro gf N V hF;have xv:=hF 20 _ rfl;simp only[Yav,Ybv,Nat.reduceAdd,Ybp,YaU,Ybi,YbX,FA,Act.put,Yba,Yby,YbN,xv];replace V:=Af ((Ext.refl _).drew.trans V);have xx:Hid (MulIn w N l P r n m k j x g):=⟨u.out.1,u.out.2.1,u.out.2.2.1.ext V.out,u.out.2.2.2.1,u.out.2.2.2.2.trans V.out⟩;replace X:=V.out.cellv X;replace xh:=xx.out.2.2.1.frozen (k+j);clear hF xv V u xb xs xF xy xz xG xu xH xI xJ xC xD xE;have xp:=Af (xx.out.step (u:=((x:Int)*y+z+g)%4294967296) (v:=((x:Int)*y+z+g)/4294967296) xw Q O.out L.out xg xj xk xm (by rw[BF];simp) (by rw[BF];simp));generalize (x:Int)*y+z+g=T at *;go_wp2;exact⟨by first | exact xp.out | (rw[Int.emod_emod_of_dvd];exact xp.out),by simp[intOf];omega⟩
    .obtain rfl:j=m:=by omega
     have X:wr.cell? ⟨w.heap.size,k+j,none⟩=some (.int .u32 (r.getD (k+j) 0:Nat)):=by rw[u.out.2.2.1.cell,Ea (by rw[u.out.1];omega)]
     have xh:=u.out.2.2.1.frozen (k+j);have xe:=Af (u.out.close Q xc.out.symm F.out xm);go_wp2;exact⟨⟨k+1,_,Q,by simp,xe⟩,by simp[intOf];omega⟩
  .obtain rfl:k=n:=by omega
   have U:Hid (Words wr (.slice (some ⟨w.heap.size,0,none⟩) (k+m) (k+m)) r):=by
    have:=CI (c:=k+m) Y.out.2.2.1 Y.out.2.1 Zfn ZbD;rw[Y.out.1]at this;exact this
   have xe:Hid (val r=val l*val P):=by
    have C:=Y.out.2.2.2.1;have er:r.take (k+m)=r:=Yap Zfn;have ea:l.take k=l:=Yap (by rw[<-xa.out];omega);rw[er,ea]at C;exact C
   go_wp2_with (go_at_call 288;refine(FT _ _ _ U.out).mono ?_;rintro e N ⟨s,rfl,xf,V⟩);go_ret;refine⟨s,rfl,?_,Y.out.2.2.2.2.trans V⟩;rw[Bn Y.out.2.1,xe.out]at xf;exact xf
theorem Hz(a g:Value)(x y:Nat)(w:World)(p:Words w a (As x))(I:Words w g (As y)) :
  Calls prog 276 #[a,g] w λe N=>e=.returned (.int .i64 (Fx x y))/\Ext w N:=by
 obtain⟨A,c,rfl,J,u,G⟩:=p.open_;obtain⟨B,d,rfl,L,U,O⟩:=I.open_;clear p I;have f:=Af G;have h:=Af O;clear G O;obtain⟨n,V⟩:∃n,n=(As x).length:=⟨_,rfl⟩;obtain⟨m,z⟩:∃m,m=(As y).length:=⟨_,rfl⟩;rw[<-V]at J ⊢;rw[<-z]at L ⊢;replace V:=Af V;replace z:=Af z;rcases Ycl n m with Q | heq | hgt
 .have W:decide ((n:Int)<m)=true:=Zip
  have H:decide ((m:Int)<n)=false:=Zip
  go_enter func276,ntmps276;go_wp2;exact ZhR
 .subst heq
  have W:decide ((n:Int)<n)=false:=by simp
  go_enter func276,ntmps276;go_wp2;go_loopw [5] (λi wr=>∃k:Nat,k<=n/\i=.int .i64 ((k:Int)-1)/\Hid (Ext w wr/\∀i,k<=i->(As x).getD i 0=(As y).getD i 0)) (λi _=>(intOf i+1).toNat)
  case atStart=>exact Zan
  case round=>
   obtain⟨k,F,rfl,S⟩:=hrel;by_cases r:k=0
   .exact Zao
   .obtain ⟨q, rfl⟩:∃q, k=q+1:=⟨k-1, by omega⟩
    obtain⟨b,o,rfl,I,Z⟩:=f.out Zdo;replace Z:=(S.out.1.cell (p:=⟨b,o+q,none⟩) I).trans (Z q Zdo);obtain⟨R,M,rfl,T,t⟩:=h.out ZeA;replace t:=(S.out.1.cell (p:=⟨R,M+q,none⟩) T).trans (t q ZeA);generalize l:(As x).getD q 0=X at *;generalize s:(As y).getD q 0=Y at *;replace l:=Af l;replace s:=Af s;have j:((q+1:Nat):Int)-1=q:=by omega
    rw[j];rcases Ycl X Y with Q | heq | hgt
    .have v:decide ((X:Int)<Y)=true:=Zip
     go_wp2;go_quiet (fail);go_wp2;go_ret;exact⟨by rw[Sp (k:=q) ZdQ Zdo (λi K=>S.out.2 i K) (by rw[l.out,s.out];exact Q)];rfl,S.out.1.drewN _⟩
    .subst heq
     have v:decide ((X:Int)<X)=false:=by simp
     go_wp2;go_quiet (fail);go_wp2;go_quiet (fail);go_wp2;refine⟨⟨q,by omega,rfl,S.out.1.drewN _,λi K=>?_⟩,by simp[intOf]⟩;rcases YaG q i with C | C
     .exact S.out.2 i C
     .obtain rfl:i=q:=by omega
      rw[l.out,s.out]
    .have v:decide ((X:Int)<Y)=false:=Zip
     have xa:decide ((Y:Int)<X)=true:=Zip
     have P:¬((X:Int)<Y):=by omega
     go_wp2;go_quiet (fail);go_wp2;go_quiet (fail);go_wp2;exact ZgS
 .have W:decide ((n:Int)<m)=false:=Zip
  have H:decide ((m:Int)<n)=true:=Zip
  go_enter func276,ntmps276;go_wp2;exact ZhL
theorem NI(O:Value)(J:List Nat)(d:Nat)(w:World)(p:Words w O J)(f:J.length<=4398046511104)(H:0<d)(P:d<4294967296) :
  Calls prog 310 #[O,.int .u64 d] w λe N=>∃Y,e=.returned (.tuple #[Y,.int .u64 (val J%d:Nat)])/\Words N Y (As (val J/d))/\Ext w N:=by
 obtain⟨A,c,rfl,I,j,E⟩:=p.open_;have g:=Af p.small;clear p;have Q:=Af E;clear E;obtain⟨n,L⟩:∃n,n=J.length:=⟨_,rfl⟩;rw[<-L]at I f ⊢;replace L:=Af L;have h:=λW=>CA n (by omega) .i64 .i64 W;go_enter func310,ntmps310;go_wp2;go_loopw [7,8] (λt i wr=>∃(k r:Nat) (q:List Nat),k<=n/\i=.int .i64 ((k:Int)-1)/\t=.int .u64 r/\r<d/\Hid (DsRel w wr J q d n k r)) (λ_ i _=>(intOf i+1).toNat)
 case atStart => exact ⟨n, 0, List.replicate n 0, Yah _, rfl, rfl, H, by simp, Cu _, Blk.new _ _ _, by
  have B:J.drop n=[]:=YaL (by rw[<-L.out];omega);rw[B];simp[val],(Ext.refl _).alloc _⟩
 case round=>
  obtain⟨k,r,q,C,rfl,rfl,X,G⟩:=hrel;by_cases a:k=0
  .subst a
   have K:Hid (Words wr (.slice (some ⟨w.heap.size,0,none⟩) n n) q):=by
    have:=CI (c:=n) G.out.2.2.1 G.out.2.1 (by rw[G.out.1];omega) (by omega);rw[G.out.1]at this;exact this
   have u:Hid (val J/d=val q/\val J%d=r):=by
    have B:=G.out.2.2.2.1;simp only[YaU]at B;rw[B];constructor
    .rw [YaM,YcN H,YbI X,Ybd]
    .rw [YaM,Ydt,YaS X]
   go_wp2_with (go_at_call 288;refine(FT _ _ _ K.out).mono ?_;rintro e N ⟨Y,rfl,l,V⟩);go_ret2;refine⟨Y,by rw[u.out.2];rfl,?_,G.out.2.2.2.2.trans V⟩;rw[Bn G.out.2.1,<-u.out.1]at l;exact l
  .obtain ⟨k, rfl⟩:∃q, k=q+1:=⟨k-1, by omega⟩
   obtain⟨b,o,rfl,F,M⟩:=Q.out (by rw[<-L.out];omega);replace M:=(G.out.2.2.2.2.cell (p:=⟨b,o+k,none⟩) F).trans (M k (by rw[<-L.out];omega));have R:=Bd g.out k;have T:wr.cell? ⟨w.heap.size,k,none⟩=some (.int .u32 (q.getD k 0:Nat)):=by rw[G.out.2.2.1.cell,Ea (by rw[G.out.1];omega)]
   have S:=G.out.2.2.1.frozen k;generalize E:J.getD k 0=x at *;replace E:=Af E;unfold BB at R;have Z:((k+1:Nat):Int)-1=k:=by omega
   rw[Z];have u:Hid (((r:Int)*4294967296+x)/d%4294967296=((r*4294967296+x)/d:Nat)/\((r:Int)*4294967296+x)%d=((r*4294967296+x)%d:Nat)):=A0p X R P;go_wp2;refine⟨⟨k,(r*4294967296+x)%d,_,by omega,rfl,by rw[u.out.2],YaT _ H,G.out.step C L.out.symm E.out H X P R u.out.1⟩,by simp[intOf]⟩
theorem PS(v:Value)(l:List Nat)(w:World)(h:Words w v l)(f:l.length<=2) :
  Calls prog 315 #[v] w λe N=>e=.returned (.int .u64 (val l:Nat))/\w=N:=by
 have c:=Bd h.small 0;have A:=Bd h.small 1
 have r:Hid (val l=l.getD 0 0+BB*l.getD 1 0):=by
  match l,f with
  |[],_=>simp[val,Hid]
  |[a],_=>simp[val,Hid]
  |[a,b],_=>simp[val,Hid]
 replace h:=Af h;generalize E:l.getD 0 0=x at *;generalize O:l.getD 1 0=y at *;replace E:=Af E;replace O:=Af O;unfold BB at c A;go_enter func315,ntmps315;go_wp2_with fail;refine(Ij v l 1 y _ h.out O.out).mono ?_;rintro e j ⟨rfl,rfl⟩;go_wp2_with fail;refine(Ij v l 0 x _ h.out E.out).mono ?_;rintro e j ⟨rfl,rfl⟩;go_wp2;go_ret;exact⟨by rw[r.out,BF,show x+4294967296*y=y*4294967296+x by omega];rfl,rfl⟩
theorem YR(a b:Nat)(w:World)(B:a<18446744073709551616)(F:b<18446744073709551616) :
  Calls prog 314 #[.int .u64 a,.int .u64 b] w λe N=>e=.returned (.int .u64 (Nat.gcd a b:Nat))/\w=N:=by
 go_enter func314,ntmps314;go_wp2;go_loop [0,1] (λx y=>∃p q:Nat,p<18446744073709551616/\q<18446744073709551616/\x=.int .u64 p/\y=.int .u64 q/\Hid (Nat.gcd p q=Nat.gcd a b)) (λ_ y=>(intOf y).toNat)
 case atStart=>exact⟨a,b,B,F,rfl,rfl,rfl⟩
 case round=>
  obtain⟨p,q,G,l,rfl,rfl,P⟩:=hrel;by_cases c:q=0
  .subst c
   go_wp2;go_ret;exact⟨by rw[<-P.out,Nat.gcd_zero_right];rfl,rfl⟩
  .have I:0<q:=by omega
   have A:decide ((0:Int)<q)=true:=by simpa using I
   obtain⟨r,X⟩:∃r,r=p%q:=⟨_,rfl⟩;have d:(p:Int)%(q:Int)=(r:Int):=by rw[X];rfl
   have Q:r<q:=by rw[X];exact YaT _ I
   replace X:=Af X;go_wp2;go_round
   case rel=>exact⟨q,r,l,by omega,rfl,by rw[<-d],by rw[X.out,<-P.out,YcK p q,YeL q p];exact YcK _ _⟩
   case measure=>simp[intOf];omega
theorem Win.ext{b:Nat}{pre x post:List Nat}(h:Win w b pre x post)(A:Ext w q):Win q b pre x post:=Blk.ext h A
theorem Only.ext{b:Nat}(h:Only b w q)(A:Ext q uD):Only b w uD:=⟨A.os.trans h.os,A.tape.trans h.tape,A.output.trans h.output,Yat h.size A.size,λk C B=>(A.block (Yaq C h.size)).trans (h.block k C B)⟩
def YT(w:World)(u v:List Nat)(e:Ending)(N:World):Prop:=∃q:Nat,e=.returned (.int .u64 q)/\q<BB/\val u/val v<=q/\q*val v<val u+val v/\Ext w N
def Aav(w:World)(O N A:Nat)(u v:List Nat)(q r:Value)(p:World):Prop:=
 ∃k h:Nat,q=.int .u64 k/\r=.int .u64 h/\h<4294967296/\k<=8589934592/\Hid (k*O+h=A+BB*N/\val u/val v<=k)/\Hid (Ext w p)
set_option maxRecDepth 1000000 in
theorem A0E(b o ov n cu cv:Nat)(pre post u v:List Nat)(w:World)(N:Win w b pre u post)(J:u.length=n+1)(E:v.length=n)(xd:2<=n)(f:n<=4398046511104)(d:BM u)(W:BM v)
  (xe:∀i,i<n->w.cell? ⟨o,ov+i,none⟩=some (.int .u32 (v.getD i 0:Nat))) (xm:n+1<=cu) (xi:n<=cv) (xg:2147483648<=v.getD (n-1) 0) (Q:val u<BB*val v) :
  Calls prog 311 #[.slice (some ⟨b,pre.length,none⟩) (n+1) cu,.slice (some ⟨o,ov,none⟩) n cv] w (YT w u v):=by
 obtain⟨m,rfl⟩:∃m,n=m+2:=⟨n-2,by omega⟩;have O:=Af (A8S J E d W Zef Q);have xc:=N.cell (k:=m+2) ZbD;have g:=N.cell (k:=m+1) ZbD;have c:=N.cell (k:=m) ZbD;have T:=xe (m+1) ZbD;have j:=xe m ZbD;have xb:=Bd d (m+2);have xl:=Bd d (m+1);have xr:=Bd d m;have s:=Bd W (m+1);have xf:=Bd W m;have xy:2147483648<=v.getD (m+1) 0:=xg;generalize xs:u.getD (m+2) 0=y at *;generalize xt:u.getD (m+1) 0=z at *;generalize xq:u.getD m 0=U2 at *;generalize xu:v.getD (m+1) 0=V at *;generalize xv:v.getD m 0=V2 at *;replace xs:=Af xs;replace xt:=Af xt;replace xq:=Af xq;replace xu:=Af xu;replace xv:=Af xv;unfold BB at xb xl xr s xf;replace N:=Af N;replace J:=Af J;replace E:=Af E;replace d:=Af d;replace W:=Af W;replace xe:=Af xe;replace Q:=Af Q;clear xg;generalize I:pre.length=P at *;replace I:=Af I;have x:m<=4398046511102:=by omega
 clear f xd;go_enter func311,ntmps311;go_wp2;go_quiet (fail)
 have k:Hid (((y:Int)*4294967296+z)/V=((z+BB*y)/V:Nat)/\((y:Int)*4294967296+z)%V=((z+BB*y)%V:Nat)):=by
  have e:(y:Int)*4294967296+z=((z+BB*y:Nat):Int):=by rw[BF];omega
  exact ZhY
 go_upto_block 0 with(fail)
 rw[k.out.1,k.out.2];go_cut [7,8] (λq r wx=>∃qn:Nat,q=.int .u64 qn/\qn<4294967296/\Hid (val u/val v<=qn/\qn*val v<val u+val v)/\Hid (Ext w wx))
 case first=>
  go_wp2;go_loopw [7,8] (λq r wx=>Aav w V y z u v q r wx) (λq _ _=>(intOf q).toNat)
  case atStart=>
   have h:0<V:=by omega
   refine⟨_,_,rfl,rfl,?_,?_,⟨?_,?_⟩,?_⟩
   .have:=YaT (z+BB*y) h;omega
   .refine YbT (Ybw ?_)
    have:2147483648*8589934592<=V*8589934592:=YaB _ xy;rw[BF];omega
   .rw [YaM];exact YcV _ _
   .exact O.out.start
   .exact (Ext.refl _).drewN _
  case round=>
   obtain⟨q,r,rfl,rfl,X,l,F,R⟩:=hrel;have t:=R.out.cellv c;have U:wr.cell? ⟨o,ov+(m+1),none⟩=some (.int .u32 (V:Nat)):=R.out.cellv T;have H:wr.cell? ⟨o,ov+m,none⟩=some (.int .u32 (V2:Nat)):=R.out.cellv j;clear xc g c T j;have xw:=Af (λM=>O.out.down F.out.1 F.out.2 (q:=q) (r:=r) M);have a:Hid (∀q' K,q'*V+K=z+BB*y->val u/val v<=q'->q'<BB->q'*V2<=K*BB+U2->val u/val v<=q'/\q'*val v<val u+val v):=λq' K A B L S=>⟨B,O.out.after A L S⟩;have xx:Hid (∀q' K,q'*V+K=z+BB*y->BB<=K->q'<BB/\q'*V2<=K*BB+U2):=λq' K A B=>O.out.great A B;by_cases p:4294967296<=q
   .have xj:decide ((4294967296:Int)<=q)=true:=Zip
    replace p:=Af p;replace l:=Af l;have C:=Af (xw.out (.inl (by rw[BF];exact p.out)));by_cases Z:4294967296<=r+V
    .have xp:(4294967296:Int)<=(r:Int)+V:=by omega
     replace Z:=Af Z;go_wp2;go_quiet (fail);have Y:(1:Int)<=q:=by have:=p.out;omega
     have xk:(q:Int)<=8589934592:=by have:=l.out;omega
     clear xj;go_wp2;go_meet
     case rel=>
      exact Zgr
    .have xp:decide ((4294967296:Int)<=(r:Int)+V)=false:=Zip
     replace Z:=Af Z;go_wp2;go_quiet (fail);have Y:(1:Int)<=q:=by have:=p.out;omega
     have xk:(q:Int)<=8589934592:=by have:=l.out;omega
     clear xj;exact Zgx
   .have xj:decide ((4294967296:Int)<=q)=false:=Zip
    have xo:q<4294967296:=by omega
    replace p:=Af p;replace l:=Af l;have G:(q:Int)*V2<=18446744065119617025:=by have:=FP xo xf;omega
    have xa:(0:Int)<=(q:Int)*V2:=Yco ZbD ZbD;by_cases xh:r*4294967296+U2<q*V2
    .have xn:decide ((r:Int)*4294967296+U2<(q:Int)*V2)=true:=Zip
     have C:=Af (xw.out (.inr (by rw[BF];exact xh)));replace xh:=Af xh;have Y:(1:Int)<=q:=by have:=C.out.1;omega
     by_cases Z:4294967296<=r+V
     .have xp:decide ((4294967296:Int)<=(r:Int)+V)=true:=Zip
      replace Z:=Af Z;go_wp2;go_quiet (fail);clear G xa xn xj;go_wp2;go_meet
      case rel=>
       exact Zgr
     .have xp:decide ((4294967296:Int)<=(r:Int)+V)=false:=Zip
      replace Z:=Af Z;go_wp2;go_quiet (fail);clear G xa xn xj;exact Zgx
    .have xn:decide ((r:Int)*4294967296+U2<(q:Int)*V2)=false:=Zip
     replace xh:=Af xh;go_wp2;go_quiet (fail);go_wp2;go_meet
     case rel=>exact⟨q,rfl,xo,a.out _ _ F.out.1 F.out.2 (by rw[BF];exact xo) (by have:=xh.out;rw[BF];omega),R.out.drewN _⟩
 case rest=>
  obtain⟨q,rfl,l,F,R⟩:=hcut;clear xc g c T j;go_wp2;go_ret;exact⟨q,rfl,by rw[BF];exact l,F.out.1,F.out.2,R.out⟩
def LsRel(w wr:World)(b:Nat)(pre post u v x:List Nat)(n q k cy A:Nat):Prop:=
 x.length=n/\BM x/\Win wr b pre x post/\Only b w wr/\val (x.take k)+q*val (v.take k)=val (u.take k)+BB^k*(cy+A)/\(∀i,k<=i->x.getD i 0=u.getD i 0)/\(v.length<k->cy=0)
theorem LsRel.step{w wr:World}{pre post u v x:List Nat}{A q k cy Q y z:Nat}(h:LsRel w wr n pre post u v x A q k cy Q)(E:k<A)(O:v.getD k 0=y)(o:x.getD k 0=z)(V:z<BB)(F:Q<=1)(T:cy<BB){e:Int}
  (b:e=(z+BB*(if z<(q*y+cy)%BB+Q then 1 else 0)-(q*y+cy)%BB-Q:Nat)) :
  LsRel w (wr.setCell ⟨n,pre.length+k,none⟩ (.int .u32 e)) n pre post u v (x.set k (z+BB*(if z<(q*y+cy)%BB+Q then 1 else 0)-(q*y+cy)%BB-Q)) A q (k+1) ((q*y+cy)/BB) (if z<(q*y+cy)%BB+Q then 1 else 0):=by
 obtain⟨B,C,L,S,G,M,g⟩:=h;have I:=YaT (q*y+cy) CQ;have Y:z+BB*(if z<(q*y+cy)%BB+Q then 1 else 0)-(q*y+cy)%BB-Q<BB:=by split<;>omega
 have Z:z+BB*(if z<(q*y+cy)%BB+Q then 1 else 0)-(q*y+cy)%BB-Q+((q*y+cy)%BB+Q)=z+BB*(if z<(q*y+cy)%BB+Q then 1 else 0):=by split<;>omega
 generalize (if z<(q*y+cy)%BB+Q then 1 else 0:Nat)=N at *;generalize W:z+BB*N-(q*y+cy)%BB-Q=X at *;refine⟨by simpa using B,Do C k Y,by rw[b];exact L.set ZbD X,S.set _ _,?_,λi K=>?_,λJ=>?_⟩
 .rw [Bg, Dt, Cp ZbD, Bg u, Bg v, O, <-M k (Yah _), o]
  have s:=YcF (q*y+cy) BB
  have H:BB^(k+1)*((q*y+cy)/BB+N)+BB^k*z=BB^k*X+q*(BB^k*y)+BB^k*(cy+Q):=by
   have R:BB*((q*y+cy)/BB+N)+z=X+q*y+(cy+Q):=Zhp
   rw[Ybq,YaY,<-YaD,R,YaD,YaD,Ybj q]
  rw[YaD q];omega
 .rw [<-M i ZbD]
  exact ZaB
 .have p:y=0:=by rw [<-O];simp [show v.length<=k by omega]
  rw[p,Ycu,YaH];exact YbI T
theorem A9A{q y c z d:Nat}(o:z<4294967296)(A:d<=1) :
  (4294967296+(z:Int)-((q:Int)*y+c)%4294967296-d)%4294967296=((z+BB*(if z<(q*y+c)%BB+d then 1 else 0)-(q*y+c)%BB-d:Nat):Int) /\
  1-(4294967296+(z:Int)-((q:Int)*y+c)%4294967296-d)/4294967296=((if z<(q*y+c)%BB+d then 1 else 0:Nat):Int) /\
  ((q:Int)*y+c)/4294967296=(((q*y+c)/BB:Nat):Int)/\0<=4294967296+(z:Int)-((q:Int)*y+c)%4294967296-d/\4294967296+(z:Int)-((q:Int)*y+c)%4294967296-d<=8589934591:=by
 have e:(q:Int)*y+c=((q*y+c:Nat):Int):=by simp[Ycq,Ydr]
 have x:=YaT (q*y+c) CQ;have s:((q:Int)*y+c)%4294967296=(((q*y+c)%BB:Nat):Int):=by rw[e,BF,Ydl];rfl
 have H:((q:Int)*y+c)/4294967296=(((q*y+c)/BB:Nat):Int):=by rw[e,BF,Ydk];rfl
 rw[s,H];generalize (q*y+c)%BB=p at *;rw[BF]at x ⊢;refine⟨?_,?_,rfl,by omega,by omega⟩<;>(split<;>omega)
def A85(w:World)(b:Nat)(pre post u v:List Nat)(q:Nat)(e:Ending)(N:World):Prop:=
 ∃x:List Nat,e=.returned (.bool (decide (val u<q*val v)))/\x.length=u.length/\BM x/\Win N b pre x post/\Only b w N/\val x+q*val v=val u+BB^u.length*(if val u<q*val v then 1 else 0)
theorem LsRel.close{w wr:World}{b:Nat}{pre post u v x:List Nat}{n q cy I:Nat}(h:LsRel w wr b pre post u v x n q n cy I)(G:u.length=n)(r:v.length<n)(F:I<=1):I=(if val u<q*val v then 1 else 0)/\val x+q*val v=val u+BB^n*(if val u<q*val v then 1 else 0):=by
 obtain⟨A,B,L,S,C,E,g⟩:=h;rw[Yap ZbD,Yap ZbD,Yap ZbD,g r,YaH]at C;have l:=Eg B;rw[A]at l
 have key:I=(if val u<q*val v then 1 else 0):=by
  rcases Yaz I with c | c
  .subst c;rw[Yai ZbD]
  .have:I=1:=by omega
   subst this;rw[Yan ZbD]
 exact⟨key,by rw[<-key];exact C⟩
theorem YQ(b n V:Nat)(s:Value)(pre post u v:List Nat)(q P:Nat)(w:World)(M:pre.length=P)(J:Win w b pre u post)(S:u.length=n)(r:v.length<n)(f:n<=4398046511105)(N:BM u)(X:BM v)
  (p:∀wr,Only b w wr->Words wr s v) (xa:n<=V) (l:q<BB) :
  Calls prog 312 #[.slice (some ⟨b,P,none⟩) n V,s,.int .u64 q] w (A85 w b pre post u v q):=by
 replace J:=Af J;replace S:=Af S;replace N:=Af N;replace X:=Af X;replace p:=Af p;replace M:=Af M;replace r:=Af r;unfold BB at l;go_enter func312,ntmps312;go_wp2;go_loopw [7,8,9] (λL K i wr=>∃(k c d:Nat) (x:List Nat),k<=n/\i=.int .i64 k/\L=.int .u64 c/\K=.int .u64 d/\c<4294967296/\d<=1/\Hid (LsRel w wr b pre post u v x n q k c d)) (λ_ _ i _=>n-(intOf i).toNat)
 case atStart=>exact⟨0,0,0,u,Yaw _,rfl,rfl,rfl,by omega,by omega,S.out,N.out,J.out,Only.refl _ _,by simp[val],λ_ _=>rfl,λh=>by omega⟩
 case round=>
  obtain⟨k,c,d,x,C,rfl,rfl,rfl,U,a,I⟩:=hrel;by_cases Q:k<n
  .have m:decide ((k:Int)<n)=true:=by simpa using Q
   have t:wr.cell? ⟨b,P+k,none⟩=some (.int .u32 (x.getD k 0:Nat)):=by
    have:=I.out.2.2.1.cell (k:=k) (by rw[I.out.1];omega);exact Ziu
   have R:=I.out.2.2.1.frozen (P+k);have Z:=Bd X.out k;have H:=Bd I.out.2.1 k;generalize O:v.getD k 0=y at *;generalize o:x.getD k 0=z at *;replace O:=Af O;replace o:=Af o;unfold BB at Z H;have G:(q:Int)*y<=18446744065119617025:=by have:=FP l Z;omega
   have Y:(0:Int)<=(q:Int)*y:=Yco ZbD ZbD;have W:=Af (A9A (q:=q) (y:=y) (c:=c) (z:=z) (d:=d) H a)
   have xb:Hid ((q*y+c)/BB<4294967296):=by
    have:=FP l Z;show _/BB<4294967296;rw[BF];omega
   have E:=Af (I.out.step Q O.out o.out (by rw[BF];exact H) a (cy:=c) (by rw[BF];exact U) rfl);rw[M.out]at E;go_wp2_with fail;refine(Ij s v k y _ (p.out _ I.out.2.2.2.1) O.out).mono ?_;rintro e j ⟨rfl,rfl⟩;clear I;obtain⟨T,F⟩:∃T:Int,T=(q:Int)*y+c:=⟨_,rfl⟩;have xf:T<=18446744073709551615:=by omega
   have xe:0<=T:=by omega
   rw[<-F]at W;replace F:=Af F;have xc:0<=4294967296+(z:Int)-T%4294967296-d:=W.out.2.2.2.1;have xd:4294967296+(z:Int)-T%4294967296-d<=8589934591:=W.out.2.2.2.2;go_upto_region 7 with(fail)
   rw[<-F.out];clear G Y;go_wp2;rw[W.out.1,W.out.2.1,W.out.2.2.1];exact⟨⟨k+1,_,_,_,Q,by simp,rfl,rfl,xb.out,by split<;>omega,E.out⟩,by simp[intOf];omega⟩
  .obtain rfl:k=n:=by omega
   have m:decide ((k:Int)<k)=false:=by simp
   obtain⟨A,B⟩:=I.out.close S.out r.out a;replace A:=Af A;replace B:=Af B;rcases(show d=0\/d=1 by omega)with rfl | rfl
   .go_wp2
    go_ret;have g:¬val u<q*val v:=λh=>by have:=A.out;rw[Yan h]at this;omega
    exact ZjH
   .go_wp2
    go_ret
    have g:val u<q*val v:=by
     rcases YaG (val u) (q*val v)with h | h
     .exact h
     .have:=A.out;rw[Yai ZbD]at this;omega
    exact ZjH
def RsRel(w wr:World)(b:Nat)(pre post t v x:List Nat)(n k Q:Nat):Prop:=
 x.length=n/\BM x/\Win wr b pre x post/\Only b w wr/\val (x.take k)+BB^k*Q=val (t.take k)+val (v.take k)/\∀i,k<=i->x.getD i 0=t.getD i 0
theorem RsRel.step{pre post t v x:List Nat}{A k Q y z:Nat}(h:RsRel w q n pre post t v x A k Q)(E:k<A)(O:v.getD k 0=y)(o:x.getD k 0=z)(Z:y<BB)(H:z<BB)(I:Q<=1){e:Int}(b:e=((z+y+Q)%BB:Nat)) :
  RsRel w (q.setCell ⟨n,pre.length+k,none⟩ (.int .u32 e)) n pre post t v (x.set k ((z+y+Q)%BB)) A (k+1) ((z+y+Q)/BB)/\(z+y+Q)/BB<=1:=ZaC
def A84(w:World)(b:Nat)(pre post u v:List Nat)(e:Ending)(N:World):Prop:=
 ∃(x:List Nat) (c:Nat),e=.returned (.tuple #[])/\x.length=u.length/\BM x/\Win N b pre x post/\Only b w N/\val x+BB^u.length*c=val u+val v/\c<=1
theorem We(b n g:Nat)(vv:Value)(pre post u v:List Nat)(P:Nat)(w:World)(M:pre.length=P)(F:Win w b pre u post)(S:u.length=n)(r:v.length<=n)(f:n<=4398046511105)(Y:BM u)(X:BM v)
  (xb:∀wr,Only b w wr->Words wr vv v) (xd:n<=g) :
  Calls prog 313 #[.slice (some ⟨b,P,none⟩) n g,vv] w (A84 w b pre post u v):=by
 replace F:=Af F;replace S:=Af S;replace Y:=Af Y;replace X:=Af X;replace xb:=Af xb;replace M:=Af M;replace r:=Af r;go_enter func313,ntmps313;go_wp2;go_loopw [4,5] (λd i wr=>∃(k c:Nat) (x:List Nat),k<=n/\i=.int .i64 k/\d=.int .u64 c/\c<=1/\Hid (RsRel w wr b pre post u v x n k c)) (λ_ i _=>n-(intOf i).toNat)
 case atStart=>exact⟨0,0,u,Yaw _,rfl,rfl,by omega,S.out,Y.out,F.out,Only.refl _ _,by simp[val],λ_ _=>rfl⟩
 case round=>
  obtain⟨k,c,x,C,rfl,rfl,xc,E⟩:=hrel;by_cases Q:k<n
  .have l:decide ((k:Int)<n)=true:=by simpa using Q
   have R:wr.cell? ⟨b,P+k,none⟩=some (.int .u32 (x.getD k 0:Nat)):=by
    have:=E.out.2.2.1.cell (k:=k) (by rw[E.out.1];omega);exact Ziu
   have L:=Bd X.out k;have H:=Bd E.out.2.1 k;generalize O:v.getD k 0=y at *;generalize o:x.getD k 0=z at *;replace O:=Af O;replace o:=Af o;unfold BB at L H;have xn:=Af (xb.out _ E.out.2.2.2.1);have K:¬n<=k:=by omega
   have q:Hid (IntKind.u64.wrap (z:Int)=z):=Af (IntWalk.u64_in _ ZbD);have s:Hid (IntKind.u64.wrap ((z:Int)+y)=(z:Int)+y):=Af (IntWalk.u64_in _ ZbD);have h:Hid (IntKind.u64.wrap ((z:Int)+y+c)=(z:Int)+y+c):=Af (IntWalk.u64_in _ ZbD);go_upto_region 4 with(fail)
   refine wp_region_v ZbI [[], [], [(13, 0), (14, 1)], [(15, 2)], [(16, 3)], [], [], [(18, 5), (19, 6)], [(17, 4), (20, 7)], [], [(21, 8), (22, 9)]] [[], [], [0, 1], [0, 1, 2], [0, 1, 2, 3], [], [], [5, 6], [0, 1, 2, 3, 4, 5, 6, 7], [], [0, 1, 2, 3, 4, 5, 6, 7, 8, 9]]
    [λv _=>v=.slice (some ⟨b,P,none⟩) n g,λv _=>v=.int .i64 (k:Int),λv _=>v=.pointer (some ⟨b,P+k,none⟩),λv _=>v=.int .u32 (z:Int),λv _=>v=.int .u64 (z:Int),λv _=>v=vv,λv _=>v=.int .i64 (k:Int),λv _=>v=.int .u64 (y:Int),λv _=>v=.int .u64 ((z:Int)+y),λv _=>v=.int .u64 (c:Int),λv _=>v=.int .u64 ((z:Int)+y+c)]
    rfl ZbI ZbI ?stab ?steps ?fin
   case stab=>exact .cons (Stab.eq _) (.cons (Stab.eq _) (.cons (Stab.eq _) (.cons (Stab.eq _) (.cons (Stab.eq _) (.cons (Stab.eq _) (.cons (Stab.eq _) (.cons (Stab.eq _) (.cons (Stab.eq _) (.cons (Stab.eq _) (.cons (Stab.eq _) .nil))))))))))
   case steps=>
    refine .cons ?s0 (.cons ?s1 (.cons ?s2 (.cons ?s3 (.cons ?s4 (.cons ?s5 (.cons ?s6 (.cons ?s7 (.cons ?s8 (.cons ?s9 (.cons ?s10 .nil))))))))))
    case s0=>
     intro N A V C p I t;have m:A (.tmp 0)=.slice (some ⟨b,P,none⟩) n g:=p 0 ZbH;exact AD (by simp[execOp,m,go_sem]) rfl
    case s1=>
     intro N A V C p I t;exact Zhw
    case s2=>
     intro N A V C p I t;have xe:A (.tmp 13)=.slice (some ⟨b,P,none⟩) n g:=C.1 _ rfl;have xo:A (.tmp 14)=.int .i64 (k:Int):=C.2.1 _ rfl;exact AD (by simp[execOp,xe,xo,K,go_sem]) rfl
    case s3=>
     intro N A V C p I t;have xg:A (.tmp 15)=.pointer (some ⟨b,P+k,none⟩):=C.1 _ rfl;have W:N.cell? ⟨b,P+k,none⟩=some (.int .u32 (z:Int)):=V.cellv R;exact AD (by simp[execOp,xg,W,go_sem]) rfl
    case s4=>
     intro N A V C p I t;have xh:A (.tmp 16)=.int .u32 (z:Int):=C.1 _ rfl;exact AD (by simp[execOp,xh,q.out,go_sem]) rfl
    case s5=>
     intro N A V C p I t;have Z:A (.tmp 1)=vv:=p 1 ZbH;exact AD Zdm rfl
    case s6=>
     intro N A V C p I t;exact Zhw
    case s7=>
     intro N A V C p I t;have xj:A (.tmp 18)=vv:=C.1 _ rfl;have xk:A (.tmp 19)=.int .i64 (k:Int):=C.2.1 _ rfl;refine CF (by simp[execOp,resolve,invoke,t,xj,xk,go_sem]) (Ij _ v k y _ (xn.out.ext ((Ext.refl _).drew.trans V)) O.out) ?_;rintro e j ⟨rfl,rfl⟩;exact⟨_,rfl,Ext.refl _,rfl⟩
    case s8=>
     intro N A V C p I t;have xi:A (.tmp 17)=.int .u64 (z:Int):=C.1 _ rfl;have xf:A (.tmp 20)=.int .u64 (y:Int):=C.2.1 _ rfl;exact AD (by simp[execOp,xi,xf,s.out,go_sem]) rfl
    case s9=>
     intro N A V C p I t;have G:A (.tmp 4)=.int .u64 (c:Int):=p 4 ZbH;exact AD (by simp[execOp,G,go_sem]) rfl
    case s10=>
     intro N A V C p I t;have xl:A (.tmp 21)=.int .u64 ((z:Int)+y):=C.1 _ rfl;have xm:A (.tmp 22)=.int .u64 (c:Int):=C.2.1 _ rfl;exact AD (by simp[execOp,xl,xm,h.out,go_sem]) rfl
   case fin=>
    intro gf N V hF;have U:=hF 10 _ rfl;simp only[Yav,Ybv,Nat.reduceAdd,Ybp,YaU,Ybi,YbX,FA,Act.put,Yba,Yby,YbN,U];replace V:=(Ext.refl wr).drew.trans V;have xa:RsRel w N b pre post u v x n k c:=⟨E.out.1,E.out.2.1,E.out.2.2.1.ext V,E.out.2.2.2.1.ext V,E.out.2.2.2.2.1,E.out.2.2.2.2.2⟩;have xp:=V.cellv R;have a:=xa.2.2.1.frozen (P+k);have T:=Af (xa.step Q O.out o.out (by rw[BF];exact L) (by rw[BF];exact H) xc (e:=((z:Int)+y+c)%4294967296) ZcU);rw[M.out]at T;clear hF U V E xa R xn s h q;go_wp2;exact⟨⟨k+1,(z+y+c)/BB,_,Q,by simp,by rw[BF];congr 1,T.out.2,T.out.1⟩,by simp[intOf];omega⟩
  .obtain rfl:k=n:=by omega
   have l:decide ((k:Int)<k)=false:=by simp
   have B:=E.out.2.2.2.2.1;rw[Yap (by rw[E.out.1];omega),Yap (by rw[S.out];omega),Yap r.out]at B;replace B:=Af B;go_wp2;refine bodyPost_ret (v:=.tuple #[]) (by simp[results,Tryz.results313,go_sem]) rfl ?_;exact⟨x,c,rfl,E.out.1.trans S.out.symm,E.out.2.1,E.out.2.2.1,E.out.2.2.2.1,by rw[S.out];exact B.out,xc⟩
end
