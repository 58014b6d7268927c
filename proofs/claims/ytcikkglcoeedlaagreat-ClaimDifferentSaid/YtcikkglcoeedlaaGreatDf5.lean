/- Part 5. No condition. -/
import Derived.Deep.CutBlock
import Derived.Deep.DeepCutAuto
import Derived.Test.YtcikkglcoeedlaaGreatDf1
set_option linter.unusedSimpArgs false
set_option linter.unusedVariables false
set_option maxRecDepth 100000
set_option maxHeartbeats 2000000
namespace Go.Proofs.YtcikkglcoeedlaaGreat
open _root_.Go.Proofs.Tryz
variable{l h:List Nat}{n:Nat}{w p uC:World}
section
open Go.RowKit
theorem Ee{k:Nat}(h:k<l.length):val (l.drop k)=l.getD k 0+BB*val (l.drop (k+1)):=by
 rw[Ycn h];simp[val,h]
theorem Lh{k x:Nat}:(l.set k x).drop (k+1)=l.drop (k+1):=by
 rw[List.drop_set];simp
theorem LJ{r x:Nat}(V:r<4294967296)(C:x<4294967296):bits .or .u64 ((r:Int)*4294967296) (x:Int)=(r:Int)*4294967296+x:=by
 have h:=RS (q:=x) (x:=r) C V
 have A:bits .or .u64 ((r:Int)*4294967296) (x:Int)=bits .or .u64 (x:Int) ((r:Int)*4294967296):=by
  show IntKind.u64.wrap ((BitVec.ofInt 64 ((r:Int)*4294967296) ||| BitVec.ofInt 64 (x:Int)).toNat:Int)=IntKind.u64.wrap ((BitVec.ofInt 64 (x:Int) ||| BitVec.ofInt 64 ((r:Int)*4294967296)).toNat:Int);rw[BitVec.or_comm]
 rw[A,h];omega
def DsRel(w wr:World)(Z q:List Nat)(d n k r:Nat):Prop:=
 q.length=n/\BN q/\Blk wr w.heap.size 335 (wv q)/\val (Z.drop k)=val (q.drop k)*d+r/\Ext w wr
theorem DsRel.step{Z q:List Nat}{d n k r x:Nat}(h:DsRel w p Z q d n (k+1) r)(C:k<n)(I:Z.length=n)(E:Z.getD k 0=x)(G:0<d)(V:r<d)(f:d<4294967296)(s:x<4294967296){u:Int}(S:u=((r*4294967296+x)/d:Nat)) :
  DsRel w (p.setCell ⟨w.heap.size,k,none⟩ (.int .u32 u)) Z (q.set k ((r*4294967296+x)/d)) d n k ((r*4294967296+x)%d):=by
 obtain⟨A,B,K,Y,J⟩:=h
 have F:(r*4294967296+x)/d<BB:=by
  rw[BE];refine Yby ?_;exact Zit
 refine⟨by simpa using A,Do B k F,by rw[S,<-Jt];exact K.set k _,?_,J.set (Yah _) _⟩;rw[Ee (l:=Z) (k:=k) ZbG,Ee (l:=q.set k _) (k:=k) (by rw[Ycg];omega),Lh,Cr ZbG,E,Y,<-BE];have e:=YcY (r*BB+x) d;rw[YbG,YaE,Ybb BB];have y:d*((r*BB+x)/d)=(r*BB+x)/d*d:=YaN _ _;have L:BB*r=r*BB:=YaN _ _;omega
theorem A0y{r x d:Nat}(V:r<d)(C:x<4294967296)(A:d<4294967296) :
  ((r:Int)*4294967296+x)/d%4294967296=((r*4294967296+x)/d:Nat)/\((r:Int)*4294967296+x)%d=((r*4294967296+x)%d:Nat):=by
 have e:(r:Int)*4294967296+x=((r*4294967296+x:Nat):Int):=by omega
 rw[e,<-Ydl,<-Ydm]
 have E:(r*4294967296+x)/d<4294967296:=by
  refine Yby ?_;exact Zit
 generalize (r*4294967296+x)/d=q at *;exact⟨by omega,rfl⟩
theorem Qv(s:Value)(Z:List Nat)(d:Nat)(w:World)(l:Words w s Z)(h:Z.length<=4398046511104)(a:0<d)(f:d<4294967296) :
  Calls prog 325 #[s,.int .u64 d] w λe M=>∃J,e=.returned (.tuple #[J,.int .u64 (val Z%d:Nat)])/\Words M J (Aw (val Z/d))/\Ext w M:=by
 obtain⟨A,c,rfl,G,j,E⟩:=l.open_;have H:=Af l.small;clear l;have L:=Af E;clear E;obtain⟨n,U⟩:∃n,n=Z.length:=⟨_,rfl⟩;rw[<-U]at G h ⊢;replace U:=Af U;have g:=λW=>CB n (by omega) .i64 .i64 W;go_enter func325,ntmps325;go_wp2;go_loopw [7,8] (λt i wr=>∃(k r:Nat) (q:List Nat),k<=n/\i=.int .i64 ((k:Int)-1)/\t=.int .u64 r/\r<d/\Hid (DsRel w wr Z q d n k r)) (λ_ i _=>(intOf i+1).toNat)
 case atStart => exact ⟨n, 0, List.replicate n 0, Yah _, rfl, rfl, a, by simp, Cx _, Blk.new _ _ _, by
  have B:Z.drop n=[]:=YaL (by rw[<-U.out];omega);rw[B];simp[val],(Ext.refl _).alloc _⟩
 case round=>
  obtain⟨k,r,q,C,rfl,rfl,V,I⟩:=hrel;by_cases Y:k=0
  .subst Y
   have K:Hid (Words wr (.slice (some ⟨w.heap.size,0,none⟩) n n) q):=by
    have:=CI (c:=n) I.out.2.2.1 I.out.2.1 (by rw[I.out.1];omega) (by omega);rw[I.out.1]at this;exact this
   have u:Hid (val Z/d=val q/\val Z%d=r):=by
    have B:=I.out.2.2.2.1;simp only[YaP]at B;rw[B];constructor
    .rw [YaN,YcR a,YbJ V,Ybi]
    .rw [YaN,Ydu,YaS V]
   go_wp2_with (go_at_call 287;refine(El _ _ _ K.out).mono ?_;rintro e M ⟨J,rfl,m,Q⟩);go_ret2;refine⟨J,by rw[u.out.2];rfl,?_,I.out.2.2.2.2.trans Q⟩;rw[Bo I.out.2.1,<-u.out.1]at m;exact m
  .obtain ⟨k, rfl⟩:∃q, k=q+1:=⟨k-1, by omega⟩
   obtain⟨b,o,rfl,F,N⟩:=L.out (by rw[<-U.out];omega);replace N:=(I.out.2.2.2.2.cell (p:=⟨b,o+k,none⟩) F).trans (N k (by rw[<-U.out];omega));have O:=Be H.out k;have P:wr.cell? ⟨w.heap.size,k,none⟩=some (.int .u32 (q.getD k 0:Nat)):=by rw[I.out.2.2.1.cell,Ed (by rw[I.out.1];omega)]
   have S:=I.out.2.2.1.frozen k;generalize E:Z.getD k 0=x at *;replace E:=Af E;unfold BB at O;have X:((k+1:Nat):Int)-1=k:=by omega
   rw[X];have p:=LJ (r:=r) (x:=x) (by omega) O;have u:Hid (((r:Int)*4294967296+x)/d%4294967296=((r*4294967296+x)/d:Nat)/\((r:Int)*4294967296+x)%d=((r*4294967296+x)%d:Nat)):=A0y V O f;go_wp2;refine⟨⟨k,(r*4294967296+x)%d,_,by omega,rfl,by rw[u.out.2],YaV _ a,I.out.step C U.out.symm E.out a V f O u.out.1⟩,by simp[intOf]⟩
def ShlRel(w wr:World)(Z r:List Nat)(s n k Q:Nat):Prop:=
 r.length=n+1/\BN r/\Blk wr w.heap.size 335 (wv r)/\val (r.take k)+BB^k*Q=2^s*val (Z.take k)/\Ext w wr
theorem XK{s:Nat}(Z:s<32):2^s<=2147483648:=by
 have:2^s<=2^31:=Ybn ZbG ZbG;exact ZjO
theorem A7d{x s Q:Nat}(C:x<4294967296)(Z:s<32)(F:Q<2^s):bits .or .u64 (IntKind.u64.wrap ((x:Int)*2^s)) (Q:Int)=((x*2^s+Q:Nat):Int):=by
 have G:=XK Z;have O:x*2^s<=4294967296*2147483648:=YaX ZbG G;have b:(x:Int)*2^s=((x*2^s:Nat):Int):=by simp[Yds,Int.natCast_pow]
 have y:IntKind.u64.wrap ((x:Int)*2^s)=((x*2^s:Nat):Int):=by rw[b,IntKind.wrap_u64];omega
 have A:(x*2^s) ||| Q=x*2^s+Q:=by
  have:=YcA F x;rw[YdP]at this;omega
 rw[y,u64_or_nat _ _ ZbG ZbG,A]
theorem ShlRel.step{M r:List Nat}{s n k Q x:Nat}(h:ShlRel w p M r s n k Q)(B:k<n)(C:M.getD k 0=x)(V:x<4294967296)(Z:s<32)(F:Q<2^s){u z:Int}(S:u=((x*2^s+Q)%BB:Nat))(J:z=((x*2^s+Q)/BB:Nat)) :
  ∃(O L:Nat) (a:List Nat),O<=n/\Value.int .i64 ((k:Int)+1)=.int .i64 O/\Value.int .u64 z=.int .u64 L/\L<4294967296/\Hid (L<2^s)/\Hid (ShlRel w (p.setCell ⟨w.heap.size,k,none⟩ (.int .u32 u)) M a s n O L):=by
 obtain⟨q,A,K,Y,I⟩:=h;have G:=XK Z
 have E:(x*2^s+Q)/BB<2^s:=by
  refine Yby ?_;rw[BE];have:(x+1)*2^s<=4294967296*2^s:=YaC _ V;rw[YbG,YcB]at this;omega
 refine⟨k+1,(x*2^s+Q)/BB,r.set k ((x*2^s+Q)%BB),B,by simp,by rw[J],by omega,E,by simpa using q,Do A k (YaV _ CP),by rw[S,<-Jt];exact K.set k _,?_,I.set (Yah _) _⟩;rw[Bh,Ds,Cr ZbG,Bh M,C,YaE];have e:=YcF (x*2^s+Q) BB
 have y:BB^k*((x*2^s+Q)%BB)+BB^(k+1)*((x*2^s+Q)/BB)=BB^k*(x*2^s+Q):=by
  rw[Ybr,Ybb,<-YaE,e]
 have N:BB^k*(x*2^s+Q)=2^s*(BB^k*x)+BB^k*Q:=by
  rw[YaE,<-Ybb,YaN (BB^k*x)]
 omega
theorem ShlRel.close{Z r:List Nat}{s n Q:Nat}(h:ShlRel w p Z r s n n Q)(B:Z.length=n)(F:Q<4294967296) :
  (r.set n Q).length=n+1/\BN (r.set n Q)/\Blk (p.setCell ⟨w.heap.size,n,none⟩ (.int .u32 (Q:Int))) w.heap.size 335 (wv (r.set n Q))/\val (r.set n Q)=2^s*val Z/\Ext w (p.setCell ⟨w.heap.size,n,none⟩ (.int .u32 (Q:Int))):=by
 obtain⟨q,A,K,Y,C⟩:=h;have E:Z.take n=Z:=Yar ZbG;rw[E]at Y;have a:(r.set n Q).take (n+1)=r.set n Q:=Yar ZiB;refine⟨by simpa using q,Do A n (by rw[BE];exact F),by rw[<-Jt];exact K.set n _,?_,C.set (Yah _) _⟩;rw[<-a,Bh,Ds,Cr ZbG,Y]
theorem Mw(I:Value)(G:List Nat)(s:Nat)(w:World)(l:Words w I G)(h:G.length<=4398046511104)(Z:s<32) :
  Calls prog 327 #[I,.int .i64 s] w λe M=>∃(g:Nat) (r:List Nat),e=.returned (.slice (some ⟨g,0,none⟩) (G.length+1) (G.length+1))/\r.length=G.length+1/\BN r/\w.heap.size<=g/\Blk M g 335 (wv r)/\val r=2^s*val G/\Ext w M:=by
 obtain⟨A,c,rfl,F,Y,C⟩:=l.open_;have H:=Af l.small;clear l;have K:=Af C;clear C;obtain⟨n,U⟩:∃n,n=G.length:=⟨_,rfl⟩;rw[<-U]at F h ⊢;replace U:=Af U;have X:=λW=>CB (n+1) ZbG .i64 .i64 W;simp only[Ycq,Yeb]at X;go_enter func327,ntmps327;go_wp2;go_loopw [6,15] (λS i wr=>∃(k Q:Nat) (r:List Nat),k<=n/\i=.int .i64 k/\S=.int .u64 Q/\Q<4294967296/\Hid (Q<2^s)/\Hid (ShlRel w wr G r s n k Q)) (λ_ i _=>n-(intOf i).toNat)
 case atStart=>exact⟨0,0,List.replicate (n+1) 0,Yaw _,rfl,rfl,by omega,Ydb s,⟨by simp,Cx _,Blk.new _ _ _,by simp[val],(Ext.refl _).alloc _⟩⟩
 case round=>
  obtain⟨k,Q,r,B,rfl,rfl,d,p,q⟩:=hrel;by_cases O:k<n
  .obtain ⟨b, o, rfl, E, N⟩:=K.out Zfb
   replace N:=(q.out.2.2.2.2.cell (p:=⟨b,o+k,none⟩) E).trans (N k Zct);have L:=Be H.out k;have P:wr.cell? ⟨w.heap.size,k,none⟩=some (.int .u32 (r.getD k 0:Nat)):=by rw[q.out.2.2.1.cell,Ed (by rw[q.out.1];omega)]
   have V:=q.out.2.2.1.frozen k;generalize C:G.getD k 0=x at *;replace C:=Af C;unfold BB at L;have a:=A7d L Z p.out;replace a:=Af a;go_wp2;rw[a.out];exact⟨q.out.step O C.out L Z p.out ZcZ ZcZ,by simp[intOf];omega⟩
  .obtain rfl:k=n:=by omega
   have P:wr.cell? ⟨w.heap.size,k,none⟩=some (.int .u32 (r.getD k 0:Nat)):=by rw[q.out.2.2.1.cell,Ed (by rw[q.out.1];omega)]
   have V:=q.out.2.2.1.frozen k;have J:=Af (q.out.close U.out.symm d);go_wp2;go_ret;exact⟨w.heap.size,_,rfl,J.out.1,J.out.2.1,Yah _,J.out.2.2.1,J.out.2.2.2.1,J.out.2.2.2.2⟩
theorem A89{t s:Nat}(L:t<18446744073709551616)(Z:s<32):bits .and .u64 (t:Int) ((2^s-1:Nat):Int)=((t%2^s:Nat):Int):=by
 have G:=XK Z;rw[u64_and_nat _ _ L ZbG,YdL]
theorem A7c{r x s:Nat}(V:r<2^s)(C:x<4294967296)(Z:s<32) :
  ((r:Int)*4294967296+x)/2^s%4294967296=((r*4294967296+x)/2^s:Nat) /\
  bits .and .u64 ((r:Int)*4294967296+x) (IntKind.u64.wrap (IntKind.u64.wrap (2^s)-1))=((r*4294967296+x)%2^s:Nat):=by
 have G:=XK Z;have q:=Ydb s;have e:((2:Int)^s)=((2^s:Nat):Int):=by simp[Int.natCast_pow]
 constructor
 .rw [e];exact(A0y V C ZbG).1
 .have b:IntKind.u64.wrap (IntKind.u64.wrap (2^s)-1)=((2^s-1:Nat):Int):=by
   rw[e];simp only[IntKind.wrap_u64];omega
  have y:(r:Int)*4294967296+x=((r*4294967296+x:Nat):Int):=by omega
  rw[b,y,A89 ZbG Z]
theorem Ry(O:Value)(J:List Nat)(s:Nat)(w:World)(l:Words w O J)(h:J.length<=4398046511104)(Z:s<32) :
  Calls prog 329 #[O,.int .i64 s] w λe M=>∃K,e=.returned K/\Words M K (Aw (val J/2^s))/\Ext w M:=by
 obtain⟨A,c,rfl,G,v,E⟩:=l.open_;have H:=Af l.small;clear l;have S:=Af E;clear E;obtain⟨n,U⟩:∃n,n=J.length:=⟨_,rfl⟩;rw[<-U]at G h ⊢;replace U:=Af U;have f:0<2^s:=Ydb s;have g:2^s<4294967296:=by have:=XK Z;omega
 replace f:=Af f;replace g:=Af g;have j:=λW=>CB n ZbG .i64 .i64 W;go_enter func329,ntmps329;go_wp2;go_loopw [6,7] (λt i wr=>∃(k r:Nat) (q:List Nat),k<=n/\i=.int .i64 ((k:Int)-1)/\t=.int .u64 r/\Hid (r<2^s)/\Hid (DsRel w wr J q (2^s) n k r)) (λ_ i _=>(intOf i+1).toNat)
 case atStart => exact ⟨n, 0, List.replicate n 0, Yah _, rfl, rfl, f.out, by simp, Cx _, Blk.new _ _ _, by
  have B:J.drop n=[]:=YaL Zct;rw[B];simp[val],(Ext.refl _).alloc _⟩
 case round=>
  obtain⟨k,r,q,C,rfl,rfl,V,I⟩:=hrel;by_cases d:k=0
  .subst d
   have L:Hid (Words wr (.slice (some ⟨w.heap.size,0,none⟩) n n) q):=by
    exact Zjm
   have u:Hid (val J/2^s=val q):=by
    have B:=I.out.2.2.2.1;simp only[YaP]at B;show val J/2^s=val q;rw[B,YaN,YcR f.out,YbJ V.out,Ybi]
   go_wp2_with (go_at_call 287;refine(El _ _ _ L.out).mono ?_;rintro e M ⟨K,rfl,m,Q⟩);go_ret;refine⟨K,rfl,?_,I.out.2.2.2.2.trans Q⟩;rw[Bo I.out.2.1,<-u.out]at m;exact m
  .obtain ⟨k, rfl⟩:∃q, k=q+1:=⟨k-1, by omega⟩
   obtain⟨b,o,rfl,F,N⟩:=S.out Zct;replace N:=(I.out.2.2.2.2.cell (p:=⟨b,o+k,none⟩) F).trans (N k Zct);have X:=Be H.out k;have P:wr.cell? ⟨w.heap.size,k,none⟩=some (.int .u32 (q.getD k 0:Nat)):=by rw[I.out.2.2.1.cell,Ed ZdL]
   have Y:=I.out.2.2.1.frozen k;generalize E:J.getD k 0=x at *;replace E:=Af E;unfold BB at X;have a:((k+1:Nat):Int)-1=k:=by omega
   rw[a];have p:r<4294967296:=Yek V.out g.out;have y:=LJ (r:=r) (x:=x) p X;have u:=Af (A7c V.out X Z);go_wp2;refine⟨⟨k,(r*4294967296+x)%2^s,_,by omega,rfl,by rw[u.out.2],YaV _ f.out,I.out.step C U.out.symm E.out f.out V.out g.out X u.out.1⟩,by simp[intOf]⟩
structure KN(u v p vl ul v1 v2 u0 u1 u2:Nat):Prop where
 hv:v=vl+p*(v2+BB*v1)
 hu:u=ul+p*(u2+BB*(u1+BB*u0))
 vl_lt:vl<p
 ul_lt:ul<p
 v2_lt:v2<BB
 v1_lt:v1<BB
 u0_lt:u0<BB
 u1_lt:u1<BB
 u2_lt:u2<BB
 v1_pos:0<v1
 lt:u<BB*v
section
variable {u v p vl ul v1 v2 u0 u1 u2:Nat}
theorem KN.p_pos(h:KN u v p vl ul v1 v2 u0 u1 u2):0<p:=YbW (Yaw _) h.vl_lt
theorem KN.u0_le(h:KN u v p vl ul v1 v2 u0 u1 u2):u0<=v1:=by
 have G:=h.p_pos
 have q:v+1<=p*(v2+1+BB*v1):=by
  rw[h.hv,show v2+1+BB*v1=(v2+BB*v1)+1 by omega,YaE p (v2+BB*v1) 1];have:=h.vl_lt;omega
 have A:v2+1+BB*v1<=BB*(v1+1):=by
  rw[YaE];have:=h.v2_lt;omega
 have K:v<p*(BB*(v1+1)):=Yaq q (Yas p A);have Y:u<BB*(p*(BB*(v1+1))):=Yek h.lt (Ydh K CP)
 have n:p*(BB*(BB*u0))<=u:=by
  rw[h.hu]
  have:BB*(BB*u0)<=u2+BB*(u1+BB*u0):=by
   exact Zhr
  have:=Yas p this;omega
 have B:BB*(p*(BB*(v1+1)))=p*(BB*(BB*(v1+1))):=by rw[Ybl]
 rw[B]at Y;have f:=YbW n Y;have y:=Ybv f;have W:=Ybv y;have X:=Ybv W;omega
theorem KN.v_ge(h:KN u v p vl ul v1 v2 u0 u1 u2):p*BB<=v:=by
 rw[h.hv];have:BB*1<=BB*v1:=Yas _ h.v1_pos;have A:p*BB<=p*(v2+BB*v1):=Yas p ZbG;omega
theorem KN.v_pos(h:KN u v p vl ul v1 v2 u0 u1 u2):0<v:=Yaq (YcW h.p_pos CP) h.v_ge
theorem KN.q_lt(h:KN u v p vl ul v1 v2 u0 u1 u2):u/v<BB:=Yby (by rw[YaN];exact h.lt)
theorem KN.qV(h:KN u v p vl ul v1 v2 u0 u1 u2):u/v*(v2+BB*v1)<=u2+BB*(u1+BB*u0):=by
 have q:u/v*v<=u:=Nat.div_mul_le_self u v
 have A:p*(u/v*(v2+BB*v1))<=u/v*v:=by
  rw[Ybl];refine Yas _ ?_;have:=h.hv;omega
 have K:u<p*(u2+BB*(u1+BB*u0)+1):=by
  have:=h.hu;have:=h.ul_lt;rw[YaE p _ 1];omega
 have Y:p*(u/v*(v2+BB*v1))<p*(u2+BB*(u1+BB*u0)+1):=by omega
 have:=Ybv Y;omega
theorem KN.qv1(h:KN u v p vl ul v1 v2 u0 u1 u2):u/v*v1<=u1+BB*u0:=by
 have q:=h.qV
 have A:BB*(u/v*v1)<=u/v*(v2+BB*v1):=by
  rw[YaE (u/v),Ybl];omega
 have K:BB*(u/v*v1)<BB*(u1+BB*u0+1):=by
  have:=h.u2_lt;rw[YaE BB _ 1];omega
 have:=Ybv K;omega
theorem KN.start(h:KN u v p vl ul v1 v2 u0 u1 u2):u/v<=(u1+BB*u0)/v1:=(Nat.le_div_iff_mul_le h.v1_pos).2 h.qv1
theorem KN.down(h:KN u v p vl ul v1 v2 u0 u1 u2){q r:Nat}(a:q*v1+r=u1+BB*u0)(C:u/v<=q)(L:BB<=q\/r*BB+u2<q*v2):1<=q/\u/v<=q-1/\(q-1)*v1+(r+v1)=u1+BB*u0:=by
 have d:1<=q:=by
  rcases L with L | L
  .have:=CP;omega
  .rcases Yax q with d | d
   .subst d;simp at L
   .exact d
 refine⟨d,?_,?_⟩
 .rcases L with L | L
  .have:=h.q_lt;omega
  .have O:u/v<q:=by
    have A:=h.qV
    have B:u2+BB*(u1+BB*u0)<q*(v2+BB*v1):=by
     rw[<-a,YaE q,Ybl q,YaE BB];have:BB*r=r*BB:=YaN _ _;omega
    exact Yej (YbW A B)
   omega
 .have:(q-1)*v1+v1=q*v1:=by
   exact Zhq
  omega
theorem KN.great(h:KN u v p vl ul v1 v2 u0 u1 u2){q r:Nat}(a:q*v1+r=u1+BB*u0)(V:BB<=r):q<BB/\q*v2<=r*BB+u2:=by
 have d:=h.u0_le;have A:BB*u0<=BB*v1:=Yas _ d;have B:q*v1<BB*v1:=by have:=h.u1_lt;omega
 have k:q<BB:=Yej B;refine⟨k,?_⟩;have K:q*v2<=BB*BB:=YaX (YbV k) (YbV h.v2_lt);have Y:BB*BB<=r*BB:=YaC _ V;omega
theorem KN.after(h:KN u v p vl ul v1 v2 u0 u1 u2){q r:Nat}(a:q*v1+r=u1+BB*u0)(k:q<BB)(L:q*v2<=r*BB+u2):q*v<u+v:=by
 have A:q*(v2+BB*v1)<=u2+BB*(u1+BB*u0):=by
  rw[<-a,YaE q,Ybl q,YaE BB];have:BB*r=r*BB:=YaN _ _;omega
 have B:q*v=q*vl+p*(q*(v2+BB*v1)):=by
  rw[h.hv,YaE,Ybl q p]
 have K:p*(q*(v2+BB*v1))<=p*(u2+BB*(u1+BB*u0)):=Yas p A;have Y:p*(u2+BB*(u1+BB*u0))<=u:=by have:=h.hu;omega
 have n:q*vl<p*BB:=by
  rw[YaN p];exact YbW (YaC _ (YbV k)) (Ydh h.vl_lt CP)
 have C:=h.v_ge;omega
end
theorem ZR(h:l.length=n+2):val l=val (l.take n)+BB^n*(l.getD n 0+BB*l.getD (n+1) 0):=by
 have q:=Bh l (n+1);have A:=Bh l n;rw[Yar ZbG]at q;rw[q,A,Ybr,Ybb,YbT,<-YaE]
theorem ZQ(h:l.length=n+3):val l=val (l.take n)+BB^n*(l.getD n 0+BB*(l.getD (n+1) 0+BB*l.getD (n+2) 0)):=by
 have q:=Bh l (n+2);have A:=Bh l (n+1);have K:=Bh l n;rw[Yar ZbG]at q;rw[q,A,K];have b:BB^(n+1)=BB^n*BB:=Ybr ..;have y:BB^(n+2)=BB^n*(BB*BB):=by rw[YcG];rfl
 rw[b,y];simp only[YaE,Ybb,YbT]
theorem Di(h:BN l)(k:Nat):BN (l.take k):=λx C=>h x (Ybs C)
theorem Rx(h:BN l)(k:Nat):BN (l.drop k):=λx C=>h x (Yci C)
theorem A8W(S:l.length=n+3)(r:h.length=n+2)(c:BN l)(b:BN h)(m:0<h.getD (n+1) 0)(O:val l<BB*val h) :
  KN (val l) (val h) (BB^n) (val (h.take n)) (val (l.take n)) (h.getD (n+1) 0) (h.getD n 0) (l.getD (n+2) 0) (l.getD (n+1) 0) (l.getD n 0) where
 hv:=ZR r
 hu:=ZQ S
 vl_lt:=by have:=Ej (Di b n);rwa [YaO,Ybx ZbG]at this
 ul_lt:=by have:=Ej (Di c n);rwa [YaO,Ybx ZbG]at this
 v2_lt:=Be b _
 v1_lt:=Be b _
 u0_lt:=Be c _
 u1_lt:=Be c _
 u2_lt:=Be c _
 v1_pos:=m
 lt:=O
def Win(w:World)(b:Nat)(pre x post:List Nat):Prop:=Blk w b 335 (wv (pre++x++post))
theorem Win.cell{b:Nat}{pre x post:List Nat}(h:Win w b pre x post){k:Nat}(B:k<x.length):w.cell? ⟨b,pre.length+k,none⟩=some (.int .u32 (x.getD k 0:Nat)):=by
 rw[Blk.cell h,Ed ZiB];simp[YaQ,B,show¬pre.length+k<pre.length by omega]
theorem Win.frozen{b:Nat}{pre x post:List Nat}(h:Win w b pre x post)(k:Nat):w.frozen? ⟨b,k,none⟩=false:=Blk.frozen h k
theorem Win.set{b:Nat}{pre x post:List Nat}(h:Win w b pre x post){k:Nat}(B:k<x.length)(y:Nat):Win (w.setCell ⟨b,pre.length+k,none⟩ (.int .u32 (y:Int))) b pre (x.set k y) post:=by
 have:=Blk.set h (pre.length+k) (.int .u32 (y:Int));rw[Jt]at this;unfold Win
 have e:(pre++x++post).set (pre.length+k) y=pre++x.set k y++post:=by
  rw[Yaf,Yaf,List.set_append_right _ _ ZbG,Nat.add_sub_cancel_left,List.set_append_left _ _ B]
 rw[e]at this;exact this
structure Only(b:Nat)(w w':World):Prop where
 os:w'.os=w.os
 tape:w'.tape=w.tape
 output:w'.output=w.output
 size:w.heap.size<=w'.heap.size
 block:∀k,k<w.heap.size->k≠b->w'.heap[k]? = w.heap[k]?
theorem Only.refl(b:Nat)(w:World):Only b w w:=⟨rfl,rfl,rfl,Yah _,λ_ _ _=>rfl⟩
theorem Only.trans{b:Nat}(h:Only b w p)(k:Only b p uC):Only b w uC:=
 ⟨k.os.trans h.os,k.tape.trans h.tape,k.output.trans h.output,Yat h.size k.size,λi J B=>(k.block i (Yaq J h.size) B).trans (h.block i J B)⟩
theorem Only.drewN(h:Only n w p)(q:Nat):Only n w (p.drewN q):=⟨h.os,h.tape,h.output,h.size,h.block⟩
theorem Only.set{b:Nat}(h:Only b w p)(o:Nat)(u:Value):Only b w (p.setCell ⟨b,o,none⟩ u):=
 ⟨h.os,h.tape,h.output,by simpa[World.setCell]using h.size,λi J B=>(Below.heap_setCell p ⟨b,o,none⟩ u i B).trans (h.block i J B)⟩
theorem Only.cellv{b:Nat}{g F:World}(h:Only b g F){p:Addr}(G:p.block≠b){v:Value}(r:g.cell? p=some v):F.cell? p=some v:=
 (World.cell?_of_block (w:=g) (h.block p.block (World.block_lt_of_cell? g p r) G)).trans r
theorem YH(x y c:Nat)(C:x<4294967296)(N:y<=4294967296)(F:c<=1)(R:y+c<=4294967296) :
  IntKind.u64.wrap (IntKind.u64.wrap ((x:Int)-y)-c)%4294967296=((x+BB*(if x<y+c then 1 else 0)-y-c:Nat):Int) /\
  IntKind.u64.wrap (IntKind.u64.wrap ((x:Int)-y)-c)/9223372036854775808=((if x<y+c then 1 else 0:Nat):Int):=by
 simp only[IntKind.wrap_u64,BE];split
 .constructor<;>omega
 .constructor<;>omega
theorem A9r{q y c z d:Nat}(u:z<4294967296)(C:d<=1) :
  IntKind.u64.wrap (IntKind.u64.wrap ((z:Int)-((q:Int)*y+c)%4294967296)-d)%4294967296=((z+BB*(if z<(q*y+c)%BB+d then 1 else 0)-(q*y+c)%BB-d:Nat):Int) /\
  IntKind.u64.wrap (IntKind.u64.wrap ((z:Int)-((q:Int)*y+c)%4294967296)-d)/9223372036854775808=((if z<(q*y+c)%BB+d then 1 else 0:Nat):Int) /\
  ((q:Int)*y+c)/4294967296=(((q*y+c)/BB:Nat):Int):=by
 have e:(q:Int)*y+c=((q*y+c:Nat):Int):=by simp[Ycq,Yds]
 have x:=YaV (q*y+c) CP;have E:((q:Int)*y+c)%4294967296=(((q*y+c)%BB:Nat):Int):=by rw[e,BE,Ydm];rfl
 have F:((q:Int)*y+c)/4294967296=(((q*y+c)/BB:Nat):Int):=by rw[e,BE,Ydl];rfl
 rw[E,F];rw[BE]at x;obtain⟨A,B⟩:=YH z ((q*y+c)%BB) d u ZcZ C ZcZ;exact⟨A,B,rfl⟩
def MsRel(w wr:World)(b:Nat)(pre post u v x:List Nat)(n q k cy A:Nat):Prop:=
 x.length=n+1/\BN x/\Win wr b pre x post/\Only b w wr/\val (x.take k)+q*val (v.take k)=val (u.take k)+BB^k*(cy+A)/\∀i,k<=i->x.getD i 0=u.getD i 0
theorem MsRel.step{pre post u v x:List Nat}{A q k cy V y z:Nat}(h:MsRel w p n pre post u v x A q k cy V)(E:k<A)(N:v.getD k 0=y)(I:x.getD k 0=z)(P:z<BB)(F:V<=1){e:Int}
  (a:e=(z+BB*(if z<(q*y+cy)%BB+V then 1 else 0)-(q*y+cy)%BB-V:Nat)) :
  MsRel w (p.setCell ⟨n,pre.length+k,none⟩ (.int .u32 e)) n pre post u v (x.set k (z+BB*(if z<(q*y+cy)%BB+V then 1 else 0)-(q*y+cy)%BB-V)) A q (k+1) ((q*y+cy)/BB) (if z<(q*y+cy)%BB+V then 1 else 0):=by
 obtain⟨B,C,K,Y,G,O⟩:=h;have L:=YaV (q*y+cy) CP;have o:z+BB*(if z<(q*y+cy)%BB+V then 1 else 0)-(q*y+cy)%BB-V<BB:=by split<;>omega
 have b:z+BB*(if z<(q*y+cy)%BB+V then 1 else 0)-(q*y+cy)%BB-V+((q*y+cy)%BB+V)=z+BB*(if z<(q*y+cy)%BB+V then 1 else 0):=by split<;>omega
 generalize (if z<(q*y+cy)%BB+V then 1 else 0:Nat)=Q at *;generalize Z:z+BB*Q-(q*y+cy)%BB-V=X at *;refine⟨by simpa using B,Do C k o,by rw[a];exact K.set ZbG X,Y.set _ _,?_,λi J=>?_⟩
 .rw [Bh, Ds, Cr ZbG, Bh u, Bh v, N, <-O k (Yah _), I]
  have M:=YcF (q*y+cy) BB
  have S:BB^(k+1)*((q*y+cy)/BB+Q)+BB^k*z=BB^k*X+q*(BB^k*y)+BB^k*(cy+V):=by
   have W:BB*((q*y+cy)/BB+Q)+z=X+q*y+(cy+V):=Zhr
   rw[Ybr,Ybb,<-YaE,W,YaE,YaE,Ybl q]
  rw[YaE q];omega
 .rw [<-O i ZbG]
  exact ZaF
theorem Ek(h:l.length=n+1):val l=val (l.take n)+BB^n*l.getD n 0:=by
 have:=Bh l n;rwa [Yar ZbG]at this
theorem MsRel.close1{b:Nat}{pre post u v x:List Nat}{n q cy I z:Nat}(h:MsRel w p b pre post u v x n q n cy I)(S:u.length=n+1)(r:v.length=n)(E:x.getD n 0=z)(P:z<BB)(k:cy+I<=z)(G:val u/val v<=q)(m:0<val v){e:Int}(a:e=(z-cy-I:Nat)) :
  ∃J,J.length=n+1/\BN J/\Win (p.setCell ⟨b,pre.length+n,none⟩ (.int .u32 e)) b pre J post/\Only b w (p.setCell ⟨b,pre.length+n,none⟩ (.int .u32 e))/\val J+q*val v=val u/\val J<val v:=by
 obtain⟨A,B,K,Y,C,F⟩:=h;have i:v.take n=v:=Yar ZbG;rw[i]at C
 have IL:val (x.set n (z-cy-I))+q*val v=val u:=by
  rw[Ek (n:=n) ZdI,Ds,Cr ZbG,Ek S,<-F n (Yah _),E];have:BB^n*z=BB^n*(z-cy-I)+BB^n*(cy+I):=by rw[<-YaE];exact Zhe
  omega
 refine⟨x.set n (z-cy-I),by simpa using A,Do B n ZbG,by rw[a];exact K.set ZbG _,Y.set _ _,IL,?_⟩
 have f:val u<(val u/val v+1)*val v:=by
  rw[YaN];exact Yef (val u) m
 have y:(val u/val v+1)*val v<=(q+1)*val v:=YaC _ ZbG;rw[YbG q,YcB]at y;omega
theorem MsRel.close2{b:Nat}{pre post u v x:List Nat}{n q cy G z:Nat}(h:MsRel w p b pre post u v x n q n cy G)(S:u.length=n+1)(r:v.length=n)(E:x.getD n 0=z)(O:z<cy+G)(T:cy+G<=BB){e:Int}(a:e=(z+BB-cy-G:Nat)) :
  (x.set n (z+BB-cy-G)).length=n+1/\BN (x.set n (z+BB-cy-G))/\Win (p.setCell ⟨b,pre.length+n,none⟩ (.int .u32 e)) b pre (x.set n (z+BB-cy-G)) post/\Only b w (p.setCell ⟨b,pre.length+n,none⟩ (.int .u32 e))/\val (x.set n (z+BB-cy-G))+q*val v=val u+BB^(n+1):=by
 obtain⟨A,B,K,Y,C,F⟩:=h;have i:v.take n=v:=Yar ZbG;rw[i]at C;refine⟨by simpa using A,Do B n ZbG,by rw[a];exact K.set ZbG _,Y.set _ _,?_⟩;rw[Ek (n:=n) ZdI,Ds,Cr ZbG,Ek S,<-F n (Yah _),E];have:BB^n*z+BB^n*BB=BB^n*(z+BB-cy-G)+BB^n*(cy+G):=by rw[<-YaE,<-YaE];exact Zhe
 rw[Ybr];omega
def AbRel(w wr:World)(b:Nat)(pre post r v x:List Nat)(n k Q:Nat):Prop:=
 x.length=n+1/\BN x/\Win wr b pre x post/\Only b w wr/\val (x.take k)+BB^k*Q=val (r.take k)+val (v.take k)/\∀i,k<=i->x.getD i 0=r.getD i 0
theorem AbRel.drewN{pre post r v x:List Nat}{A k Q:Nat}(h:AbRel w p n pre post r v x A k Q)(q:Nat):AbRel w (p.drewN q) n pre post r v x A k Q:=
 ⟨h.1,h.2.1,h.2.2.1,h.2.2.2.1.drewN q,h.2.2.2.2.1,h.2.2.2.2.2⟩
theorem AbRel.step{pre post r v x:List Nat}{q k Q y z:Nat}(h:AbRel w p n pre post r v x q k Q)(C:k<q)(N:v.getD k 0=y)(u:x.getD k 0=z)(d:y<BB)(P:z<BB)(F:Q<=1){e:Int}(a:e=((z+y+Q)%BB:Nat)) :
  AbRel w (p.setCell ⟨n,pre.length+k,none⟩ (.int .u32 e)) n pre post r v (x.set k ((z+y+Q)%BB)) q (k+1) ((z+y+Q)/BB)/\(z+y+Q)/BB<=1:=ZaG
theorem AbRel.close{b:Nat}{pre post J v x u:List Nat}{n Q z q:Nat}(h:AbRel w p b pre post J v x n n Q)(N:J.length=n+1)(s0:BN J)(r:v.length=n)(G:x.getD n 0=z)(P:z<BB)(F:Q<=1)
  (d:val J+q*val v=val u+BB^(n+1)) (C:q*val v<val u+val v) {e:Int} (a:e=((z+Q)%BB:Nat)) :
  ∃L,L.length=n+1/\BN L/\Win (p.setCell ⟨b,pre.length+n,none⟩ (.int .u32 e)) b pre L post/\Only b w (p.setCell ⟨b,pre.length+n,none⟩ (.int .u32 e))/\1<=q/\val L+(q-1)*val v=val u/\val L<val v:=by
 obtain⟨A,B,K,Y,E,I⟩:=h;have i:v.take n=v:=Yar ZbG;rw[i]at E;have X:=Ej s0;rw[N]at X
 have M:1<=q:=by
  rcases Yax q with h | h
  .subst h;rw[YcD]at d;omega
  .exact h
 have O:(q-1)*val v+val v=q*val v:=by
  exact Zhq
 have V:J.getD n 0=z:=by rw[<-I n (Yah _),G]
 have l:=Ek N;rw[V]at l
 have Z:val (x.take n)<BB^n:=by
  have:=Ej (Di B n);exact ZjP
 have U:BB^(n+1)=BB^n*BB:=Ybr ..
 have W:val (x.take n)+BB^n*(z+Q)=BB^(n+1)+(val u+val v-q*val v):=by
  exact Zhr
 have S:z+Q=BB:=by
  rcases YaD (z+Q) BB with h | h
  .exfalso
   have f:BB^n*(z+Q+1)<=BB^n*BB:=Yas _ h;rw[YaE,<-U,YbF]at f;omega
  .omega
 rw[S,<-U]at W
 have IL:val (x.set n ((z+Q)%BB))=val u+val v-q*val v:=by
  rw[Ek (n:=n) ZdI,Ds,Cr ZbG,S,Nat.mod_self,Yct,Ybi];omega
 refine⟨x.set n ((z+Q)%BB),by simpa using A,Do B n (YaV _ CP),by rw[a];exact K.set ZbG _,Y.set _ _,M,?_,?_⟩
 .rw [IL];omega
 .rw [IL];omega
theorem A1X{k:IntKind}{a b:Int}(h:a=b):Ending.returned (.int k a)=.returned (.int k b):=by rw[h]
def A6v(w:World)(b:Nat)(pre post u v:List Nat)(e:Ending)(M:World):Prop:=
 ∃(q:Nat) (x:List Nat),e=.returned (.int .u32 q)/\q<BB/\x.length=u.length/\BN x/\Win M b pre x post/\Only b w M/\val x+q*val v=val u/\val x<val v
def Aa9(w:World)(b V X Y:Nat)(pre post u v:List Nat)(q r:Value)(x:World):Prop:=
 ∃A o:Nat,q=.int .u64 A/\r=.int .u64 o/\o<4294967296/\A<=8589934592/\Hid (A*V+o=Y+BB*X/\val u/val v<=A)/\Hid (Win x b pre u post/\Only b w x)
set_option maxRecDepth 1000000 in
theorem OK(b bv ov n cu cv:Nat)(pre post u v:List Nat)(w:World)(f:Win w b pre u post)(Z:u.length=n+1)(J:v.length=n)(xr:2<=n)(h:n<=4398046511104)(su:BN u)(sv:BN v)(xE:bv≠b)
  (xt:∀i,i<n->w.cell? ⟨bv,ov+i,none⟩=some (.int .u32 (v.getD i 0:Nat))) (xC:n+1<=cu) (xx:n<=cv) (xv:2147483648<=v.getD (n-1) 0) (O:val u<BB*val v) :
  Calls prog 328 #[.slice (some ⟨b,pre.length,none⟩) (n+1) cu,.slice (some ⟨bv,ov,none⟩) n cv] w (A6v w b pre post u v):=by
 obtain⟨m,rfl⟩:∃m,n=m+2:=⟨n-2,by omega⟩;have j:=Af (A8W Z J su sv Zej O);have xp:=f.cell (k:=m+2) ZbG;have xh:=f.cell (k:=m+1) ZbG;have xg:=f.cell (k:=m) ZbG;have xm:=xt (m+1) ZbG;have xj:=xt m ZbG;have xo:=Be su (m+2);have xA:=Be su (m+1);have xI:=Be su m;have xl:=Be sv (m+1);have xu:=Be sv m;have xR:2147483648<=v.getD (m+1) 0:=xv;generalize xJ:u.getD (m+2) 0=U0 at *;generalize xK:u.getD (m+1) 0=U1 at *;generalize xH:u.getD m 0=U2 at *;generalize xL:v.getD (m+1) 0=V1 at *;generalize xM:v.getD m 0=V2 at *;replace xJ:=Af xJ;replace xK:=Af xK;replace xH:=Af xH;replace xL:=Af xL;replace xM:=Af xM;unfold BB at xo xA xI xl xu;replace f:=Af f;replace Z:=Af Z;replace J:=Af J;replace su:=Af su;replace sv:=Af sv;replace xt:=Af xt;replace O:=Af O;clear xv;generalize X:pre.length=P at *;replace X:=Af X;have xQ:=LJ (r:=U0) (x:=U1) xo xA;have Q:m<=4398046511102:=by omega
 clear h xr;go_enter func328,ntmps328;go_wp2;go_quiet (fail);go_wp2;go_quiet (fail)
 have a:Hid (((U0:Int)*4294967296+U1)/V1=((U1+BB*U0)/V1:Nat)/\((U0:Int)*4294967296+U1)%V1=((U1+BB*U0)%V1:Nat)):=by
  have e:(U0:Int)*4294967296+U1=((U1+BB*U0:Nat):Int):=by rw[BE];omega
  exact Zij
 go_upto_block 0 with(fail)
 rw[a.out.1,a.out.2];go_cut [7,8] (λq r wx=>∃qn:Nat,q=.int .u64 qn/\qn<4294967296/\Hid (val u/val v<=qn/\qn*val v<val u+val v)/\Hid (Win wx b pre u post/\Only b w wx))
 case first=>
  go_wp2;go_loopw [7,8] (λq r wx=>Aa9 w b V1 U0 U1 pre post u v q r wx) (λq _ _=>(intOf q).toNat)
  case atStart=>
   have xi:0<V1:=by omega
   refine⟨_,_,rfl,rfl,?_,?_,⟨?_,?_⟩,?_⟩
   .have:=YaV (U1+BB*U0) xi;omega
   .refine YbV (Yby ?_)
    have:2147483648*8589934592<=V1*8589934592:=YaC _ xR;rw[BE];omega
   .rw [YaN];exact YcY _ _
   .exact j.out.start
   .exact ⟨f.out,((Only.refl _ _).drewN _).drewN _⟩
  case round=>
   obtain⟨q,r,rfl,rfl,V,F,W,g⟩:=hrel
   have g2:wr.cell? ⟨b,P+m,none⟩=some (.int .u32 (U2:Nat)):=by
    have:=g.out.1.cell (k:=m) (by rw[Z.out];omega);rw[X.out,xH.out]at this;exact this
   have g1:wr.cell? ⟨bv,ov+(m+1),none⟩=some (.int .u32 (V1:Nat)):=g.out.2.cellv xE xm;have g3:wr.cell? ⟨bv,ov+m,none⟩=some (.int .u32 (V2:Nat)):=g.out.2.cellv xE xj;have xS:=LJ (r:=r) (x:=U2) V xI;clear xp xh xg xm xj xQ;have xN:=Af (λL=>j.out.down W.out.1 W.out.2 (q:=q) (r:=r) L);have xf:Hid (∀q' l,q'*V1+l=U1+BB*U0->val u/val v<=q'->q'<BB->q'*V2<=l*BB+U2->val u/val v<=q'/\q'*val v<val u+val v):=λq' l A B K Y=>⟨B,j.out.after A K Y⟩;have xO:Hid (∀q' l,q'*V1+l=U1+BB*U0->BB<=l->q'<BB/\q'*V2<=l*BB+U2):=λq' l A B=>j.out.great A B;by_cases xk:4294967296<=q
   .have xz:decide ((4294967296:Int)<=q)=true:=ZiB
    replace xk:=Af xk;replace F:=Af F;have E:=Af (xN.out (.inl (by rw[BE];exact xk.out)));by_cases xd:4294967296<=r+V1
    .have xG:(4294967296:Int)<=(r:Int)+V1:=by omega
     replace xd:=Af xd;go_wp2;go_quiet (fail);have xb:(1:Int)<=q:=by have:=xk.out;omega
     have xy:(q:Int)<=8589934592:=by have:=F.out;omega
     clear xz;go_wp2;go_meet
     case rel=>
      exact Zgp
    .have xG:decide ((4294967296:Int)<=(r:Int)+V1)=false:=ZiB
     replace xd:=Af xd;go_wp2;go_quiet (fail);have xb:(1:Int)<=q:=by have:=xk.out;omega
     have xy:(q:Int)<=8589934592:=by have:=F.out;omega
     clear xz;exact Zgv
   .have xz:decide ((4294967296:Int)<=q)=false:=ZiB
    have xF:q<4294967296:=by omega
    replace xk:=Af xk;replace F:=Af F;have G:(q:Int)*V2<=18446744065119617025:=by have:=FN xF xu;omega
    have xn:(0:Int)<=(q:Int)*V2:=Yco ZbG ZbG;by_cases xw:r*4294967296+U2<q*V2
    .have xD:decide ((r:Int)*4294967296+U2<(q:Int)*V2)=true:=ZiB
     have E:=Af (xN.out (.inr (by rw[BE];exact xw)));replace xw:=Af xw;have xb:(1:Int)<=q:=by have:=E.out.1;omega
     by_cases xd:4294967296<=r+V1
     .have xG:decide ((4294967296:Int)<=(r:Int)+V1)=true:=ZiB
      replace xd:=Af xd;go_wp2;go_quiet (fail);clear G xn xD xz xS;go_wp2;go_meet
      case rel=>
       exact Zgp
     .have xG:decide ((4294967296:Int)<=(r:Int)+V1)=false:=ZiB
      replace xd:=Af xd;go_wp2;go_quiet (fail);clear G xn xD xz xS;exact Zgv
    .have xD:decide ((r:Int)*4294967296+U2<(q:Int)*V2)=false:=ZiB
     replace xw:=Af xw;go_wp2;go_quiet (fail);go_wp2;go_meet
     case rel=>exact⟨q,rfl,xF,xf.out _ _ W.out.1 W.out.2 (by rw[BE];exact xF) (by have:=xw.out;rw[BE];omega),g.out.1,g.out.2.drewN _⟩
 case rest=>
  obtain⟨q,rfl,F,W,g⟩:=hcut;clear xp xh xg xm xj xQ;go_wp2;obtain⟨wo,rfl⟩:∃wo:World,wo=wc:=⟨_,rfl⟩;go_loopw [9,10,83] (λU t i wr=>∃(k c d:Nat) (x:List Nat),k<=m+2/\i=.int .i64 k/\U=.int .u64 c/\t=.int .u64 d/\c<4294967296/\d<=1/\Hid (MsRel w wr b pre post u v x (m+2) q k c d)) (λ_ _ i _=>m+2-(intOf i).toNat)
  case atStart=>exact⟨0,0,0,u,Yaw _,rfl,rfl,rfl,by omega,by omega,Z.out,su.out,g.out.1,g.out.2,by simp[val],λ_ _=>rfl⟩
  case round=>
   obtain⟨k,c,d,x,C,rfl,rfl,rfl,xB,xs,p⟩:=hrel;by_cases O:k<m+2
   .have g1:wr.cell? ⟨bv,ov+k,none⟩=some (.int .u32 (v.getD k 0:Nat)):=p.out.2.2.2.1.cellv xE (xt.out k O)
    have g2:wr.cell? ⟨b,P+k,none⟩=some (.int .u32 (x.getD k 0:Nat)):=by
     have:=p.out.2.2.1.cell (k:=k) Zee;exact ZiE
    have g3:=p.out.2.2.1.frozen (P+k);have xc:=Be sv.out k;have xe:=Be p.out.2.1 k;generalize N:v.getD k 0=y at *;generalize M:x.getD k 0=z at *;replace N:=Af N;replace M:=Af M;unfold BB at xc xe;have G:(q:Int)*y<=18446744065119617025:=by have:=FN F xc;omega
    have xn:(0:Int)<=(q:Int)*y:=Yco ZbG ZbG;have xa:=Af (A9r (q:=q) (y:=y) (c:=c) (z:=z) (d:=d) xe xs)
    have xq:Hid ((q*y+c)/BB<4294967296):=by
     have:=FN F xc;show _/BB<4294967296;rw[BE];omega
    go_wp2;rw[xa.out.1,xa.out.2.1,xa.out.2.2];have:=p.out.step O N.out M.out ZeK xs (cy:=c) rfl;rw[X.out]at this;exact⟨⟨k+1,_,_,_,O,by simp,rfl,rfl,xq.out,by split<;>omega,this⟩,by simp[intOf];omega⟩
   .obtain rfl:k=m+2:=by omega
    have g2:wr.cell? ⟨b,P+(m+2),none⟩=some (.int .u32 (x.getD (m+2) 0:Nat)):=by
     have:=p.out.2.2.1.cell (k:=m+2) Zee;exact ZiE
    have g3:=p.out.2.2.1.frozen (P+(m+2));have xe:=Be p.out.2.1 (m+2);generalize M:x.getD (m+2) 0=z at *;replace M:=Af M;unfold BB at xe;have xa:=Af (YH z c d xe ZbG xs ZbG);by_cases o:c+d<=z
    .go_wp2
     go_ret;obtain⟨R,A,B,K,Y,I,S⟩:=p.out.close1 Z.out J.out M.out ZeK o W.out.1 j.out.v_pos (e:=(z:Int)-c-d) ZbG;rw[X.out]at K Y;exact⟨q,R,rfl,by rw[BE];exact F,A.trans Z.out.symm,B,K,Y,I,S⟩
    .have xT:(IntKind.u64.wrap (IntKind.u64.wrap ((z:Int)-c)-d)/9223372036854775808==0)=false:=by
      rw[xa.out.2,Yan ZbG];rfl
     have H:=p.out.close2 Z.out J.out M.out ZbG ZcZ (e:=IntKind.u64.wrap (IntKind.u64.wrap ((z:Int)-c)-d)%4294967296) (by rw[xa.out.1,Yan ZbG,YbF]);rw[X.out]at H;generalize x.set (m+2) (z+BB-c-d)=s at H;replace H:=Af H;replace o:=Af o;go_wp2;obtain⟨wp,xP⟩:∃wp:World,wp=wr.setCell ⟨b,P+(m+2),none⟩ (.int .u32 (IntKind.u64.wrap (IntKind.u64.wrap ((z:Int)-c)-d)%4294967296)):=⟨_,rfl⟩;rw[<-xP]at H;rw[<-xP];clear xP xT xa g2 g3 p;go_loopw [9,136] (λU i wr=>∃(k c:Nat) (x:List Nat),k<=m+2/\i=.int .i64 k/\U=.int .u64 c/\c<=1/\Hid (AbRel w wr b pre post s v x (m+2) k c)) (λ_ i _=>m+2-(intOf i).toNat)
     case atStart=>exact⟨0,0,s,Yaw _,rfl,rfl,by omega,H.out.1,H.out.2.1,H.out.2.2.1,H.out.2.2.2.1,by simp[val],λ_ _=>rfl⟩
     case round=>
      obtain⟨k,c,x,C,rfl,rfl,xh,p⟩:=hrel;by_cases O:k<m+2
      .have g1:wr.cell? ⟨bv,ov+k,none⟩=some (.int .u32 (v.getD k 0:Nat)):=p.out.2.2.2.1.cellv xE (xt.out k O)
       have g2:wr.cell? ⟨b,P+k,none⟩=some (.int .u32 (x.getD k 0:Nat)):=by
        have:=p.out.2.2.1.cell (k:=k) Zee;exact ZiE
       have g3:=p.out.2.2.1.frozen (P+k);have xc:=Be sv.out k;have xe:=Be p.out.2.1 k;generalize N:v.getD k 0=y at *;generalize M:x.getD k 0=z at *;replace N:=Af N;replace M:=Af M;unfold BB at xc xe;go_wp2;go_quiet (fail);go_wp2;have A:=(p.out.drewN nq).step O N.out M.out (by rw[BE];exact xc) ZeK xh (e:=((z:Int)+y+c)%4294967296) ZcZ;rw[X.out]at A;exact⟨⟨k+1,(z+y+c)/BB,_,O,by simp,by rw[BE];congr 1,A.2,A.1⟩,by simp[intOf];omega⟩
      .obtain rfl:k=m+2:=by omega
       have g2:wr.cell? ⟨b,P+(m+2),none⟩=some (.int .u32 (x.getD (m+2) 0:Nat)):=by
        have:=p.out.2.2.1.cell (k:=m+2) Zee;exact ZiE
       have g3:=p.out.2.2.1.frozen (P+(m+2));have xe:=Be p.out.2.1 (m+2);generalize M:x.getD (m+2) 0=z at *;replace M:=Af M;unfold BB at xe;obtain⟨R,A,B,K,Y,xb,I,S⟩:=p.out.close H.out.1 H.out.2.1 J.out M.out ZeK xh H.out.2.2.2.2 W.out.2 (e:=((z:Int)+c)%4294967296) ZcZ;rw[X.out]at K Y;have T:=Af (And.intro A (And.intro B (And.intro K (And.intro Y (And.intro I S)))));clear A B K Y I S;go_wp2;go_ret;exact⟨q-1,R,A1X ZbG,by rw[BE];omega,T.out.1.trans Z.out.symm,T.out.2.1,T.out.2.2.1,T.out.2.2.2.1,T.out.2.2.2.2.1,T.out.2.2.2.2.2⟩
theorem A2N(x y Q:Nat)(C:x<4294967296)(N:y<4294967296)(F:Q<=1) :
  IntKind.u64.wrap (4294967296+(x:Int))=4294967296+(x:Int)/\IntKind.u64.wrap (4294967296+(x:Int)-y)=4294967296+(x:Int)-y/\IntKind.u64.wrap (4294967296+(x:Int)-y-Q)=4294967296+(x:Int)-y-Q /\
  (4294967296+(x:Int)-y-Q)%4294967296=((x+BB*(if x<Q+y then 1 else 0)-Q-y:Nat):Int)/\(4294967296+(x:Int)-y-Q)%4294967296%4294967296=((x+BB*(if x<Q+y then 1 else 0)-Q-y:Nat):Int) /\
  1-(4294967296+(x:Int)-y-Q)/4294967296=((if x<Q+y then 1 else 0:Nat):Int):=by
 simp only[IntKind.wrap_u64,BE];refine⟨by omega,by omega,by omega,?_,?_,?_⟩<;>(split<;>omega)
theorem A2K(x y z Q:Nat)(C:x<4294967296)(N:y<4294967296)(u:z<4294967296)(F:Q<4294967296) :
  IntKind.u64.wrap ((x:Int)*y)=(x:Int)*y/\IntKind.u64.wrap ((x:Int)*y+z)=(x:Int)*y+z/\IntKind.u64.wrap ((x:Int)*y+z+Q)=(x:Int)*y+z+Q/\0<=(x:Int)*y/\0<=(x:Int)*y+z+Q/\(x:Int)*y+z+Q<=18446744073709551615:=by
 have G:(x:Int)*y<=18446744065119617025:=by have:=FN C N;omega
 have e:(0:Int)<=(x:Int)*y:=Yco ZbG ZbG;generalize (x:Int)*y=p at *;simp only[IntKind.wrap_u64];omega
theorem A0O(R vb:Value)(f s:List Nat)(w:World)(l:Words w R f)(E:Words w vb s)(V:val s<=val f)(I:s.length<=f.length)(h:f.length<=4398046511104) :
  Calls prog 277 #[R,vb] w λe M=>∃g,e=.returned g/\Words M g (Aw (val f-val s))/\Ext w M:=by
 obtain⟨A,c,rfl,F,X,C⟩:=l.open_;obtain⟨B,d,rfl,K,xo,N⟩:=E.open_;have Ha:=Af l;have Hb:=Af E;have xg:=Af l.small;have xm:=Af E.small;clear l E;have hA:=Af C;have hB:=Af N;clear C N;replace V:=Af V;obtain⟨n,U⟩:∃n,n=f.length:=⟨_,rfl⟩;obtain⟨m,T⟩:∃m,m=s.length:=⟨_,rfl⟩;rw[<-U]at F I h ⊢;rw[<-T]at K I ⊢;replace U:=Af U;replace T:=Af T;have xk:=λW=>CB n ZbG .i64 .i64 W;go_enter func277,ntmps277;go_wp2;go_loopw [6,7] (λcy i wr=>∃(k Z:Nat) (r:List Nat),k<=n/\i=.int .i64 k/\cy=.int .u64 Z/\Z<=1/\Hid (DifRel w wr f s r n k Z)) (λ_ i _=>n-(intOf i).toNat)
 case atStart=>exact⟨0,0,List.replicate n 0,Yaw _,rfl,rfl,by omega,⟨by simp,Cx _,Blk.new _ _ _,by simp[val],(Ext.refl _).alloc _⟩⟩
 case round=>
  obtain⟨k,Z,r,q,rfl,rfl,xh,Y⟩:=hrel;by_cases O:k<n
  .have xp:decide ((k:Int)<n)=true:=by simpa using O
   obtain⟨b,o,rfl,E,z⟩:=hA.out Zct;replace z:=(Y.out.2.2.2.2.cell (p:=⟨b,o+k,none⟩) E).trans (z k Zct);have xc:=Be xg.out k;have xf:=Be xm.out k;generalize C:f.getD k 0=x at *;generalize N:s.getD k 0=y at *;replace C:=Af C;replace N:=Af N;unfold BB at xc xf;have Hw:Hid (Words wr (.slice B m d) s):=by rw[T.out];exact Hb.out.ext Y.out.2.2.2.2
   have xe:=Af (A2N x y Z xc xf xh);have J:¬n<=k:=by omega
   have xn:Hid (IntKind.u64.wrap (x:Int)=x):=Af (IntWalk.u64_in _ ZbG);have xi:(4294967296:Int)+x-y-Z<=8589934591:=by omega
   have xj:0<=(4294967296:Int)+x-y-Z:=by omega
   go_upto_region 6 with(fail)
   refine wp_region_v ZbK [[], [], [(18, 0), (19, 1)], [(20, 2)], [(21, 3)], [(22, 4)], [], [], [(24, 6), (25, 7)], [(23, 5), (26, 8)], [], [(27, 9), (28, 10)]] [[], [], [0, 1], [0, 1, 2], [0, 1, 2, 3], [0, 1, 2, 3, 4], [], [], [6, 7], [0, 1, 2, 3, 4, 5, 6, 7, 8], [], [0, 1, 2, 3, 4, 5, 6, 7, 8, 9, 10]]
    [λv _=>v=.slice (some ⟨b,o,none⟩) n c,λv _=>v=.int .i64 (k:Int),λv _=>v=.pointer (some ⟨b,o+k,none⟩),λv _=>v=.int .u32 (x:Int),λv _=>v=.int .u64 (x:Int),λv _=>v=.int .u64 (4294967296+(x:Int)),λv _=>v=.slice B m d,λv _=>v=.int .i64 (k:Int),λv _=>v=.int .u64 (y:Int),λv _=>v=.int .u64 (4294967296+(x:Int)-y),λv _=>v=.int .u64 (Z:Int),λv _=>v=.int .u64 (4294967296+(x:Int)-y-Z)]
    rfl ZbK ZbK ?stab ?steps ?fin
   case stab=>exact .cons (Stab.eq _) (.cons (Stab.eq _) (.cons (Stab.eq _) (.cons (Stab.eq _) (.cons (Stab.eq _) (.cons (Stab.eq _) (.cons (Stab.eq _) (.cons (Stab.eq _) (.cons (Stab.eq _) (.cons (Stab.eq _) (.cons (Stab.eq _) (.cons (Stab.eq _) .nil)))))))))))
   case steps=>
    refine .cons ?s0 (.cons ?s1 (.cons ?s2 (.cons ?s3 (.cons ?s4 (.cons ?s5 (.cons ?s6 (.cons ?s7 (.cons ?s8 (.cons ?s9 (.cons ?s10 (.cons ?s11 .nil)))))))))))
    case s0=>
     intro M S Q q l F p;have H:S (.tmp 0)=.slice (some ⟨b,o,none⟩) n c:=l 0 ZbL;exact AB (by simp[execOp,H,go_sem]) rfl
    case s1=>
     intro M S Q q l F p;exact ZiI
    case s2=>
     intro M S Q q l F p;have xs:S (.tmp 18)=.slice (some ⟨b,o,none⟩) n c:=q.1 _ rfl;have xt:S (.tmp 19)=.int .i64 (k:Int):=q.2.1 _ rfl;exact AB (by simp[execOp,xs,xt,J,go_sem]) rfl
    case s3=>
     intro M S Q q l F p;have xr:S (.tmp 20)=.pointer (some ⟨b,o+k,none⟩):=q.1 _ rfl;have a:M.cell? ⟨b,o+k,none⟩=some (.int .u32 (x:Int)):=Q.cellv z;exact AB (by simp[execOp,xr,a,go_sem]) rfl
    case s4=>
     intro M S Q q l F p;have xu:S (.tmp 21)=.int .u32 (x:Int):=q.1 _ rfl;exact AB (by simp[execOp,xu,xn.out,go_sem]) rfl
    case s5=>
     intro M S Q q l F p;have xv:S (.tmp 22)=.int .u64 (x:Int):=q.1 _ rfl;exact AB (by simp[execOp,xv,F,xe.out.1,go_sem]) rfl
    case s6=>
     intro M S Q q l F p;have G:S (.tmp 1)=.slice B m d:=l 1 ZbL;exact AB (by simp[execOp,G,go_sem]) rfl
    case s7=>
     intro M S Q q l F p;exact ZiI
    case s8=>
     intro M S Q q l F p;have xy:S (.tmp 24)=.slice B m d:=q.1 _ rfl;have xz:S (.tmp 25)=.int .i64 (k:Int):=q.2.1 _ rfl;refine Cz (by simp[execOp,resolve,invoke,p,xy,xz,go_sem]) (Ii _ s k y _ (Hw.out.ext ((Ext.refl _).drew.trans Q)) N.out) ?_;rintro e j ⟨rfl,rfl⟩;exact⟨_,rfl,Ext.refl _,rfl⟩
    case s9=>
     intro M S Q q l F p;have xx:S (.tmp 23)=.int .u64 (4294967296+(x:Int)):=q.1 _ rfl;have xB:S (.tmp 26)=.int .u64 (y:Int):=q.2.1 _ rfl;exact AB (by simp[execOp,xx,xB,xe.out.2.1,go_sem]) rfl
    case s10=>
     intro M S Q q l F p;have e6:S (.tmp 6)=.int .u64 (Z:Int):=l 6 ZbL;exact AB ZeQ rfl
    case s11=>
     intro M S Q q l F p;have xC:S (.tmp 27)=.int .u64 (4294967296+(x:Int)-y):=q.1 _ rfl;have xA:S (.tmp 28)=.int .u64 (Z:Int):=q.2.1 _ rfl;exact AB (by simp[execOp,xC,xA,xe.out.2.2.1,go_sem]) rfl
   case fin=>
    intro gf M Q hF;have xq:=hF 11 _ rfl;simp only[Yay,Ybk,Nat.reduceAdd,Ybf,YaP,Ybe,YbR,Fw,Act.put,YaW,Ybw,YbD,xq];replace Q:=Af ((Ext.refl _).drew.trans Q);have xw:Hid (DifRel w M f s r n k Z):=⟨Y.out.1,Y.out.2.1,Y.out.2.2.1.ext Q.out,Y.out.2.2.2.1,Y.out.2.2.2.2.trans Q.out⟩;have P:M.cell? ⟨w.heap.size,k,none⟩=some (.int .u32 (r.getD k 0:Nat)):=by rw[xw.out.2.2.1.cell,Ed (by rw[xw.out.1];omega)]
    have xd:=xw.out.2.2.1.frozen k;clear hF xq Q Y Hw;obtain⟨t,L⟩:∃t:Int,t=4294967296+(x:Int)-y-Z:=⟨_,rfl⟩;rw[<-L]at xi xj xe ⊢;replace L:=Af L;generalize r.getD k 0=xl at *;go_wp2;exact⟨xw.out.step O C.out N.out xc xf xh (by first | exact xe.out.2.2.2.1 | exact xe.out.2.2.2.2.1) xe.out.2.2.2.2.2,by simp[intOf];omega⟩
  .obtain rfl:k=n:=by omega
   have xa:=Af (Y.out.close U.out.symm (by rw[<-T.out];exact I) V.out)
   have u:Hid (Words wr (.slice (some ⟨w.heap.size,0,none⟩) k k) r):=by
    have:=CI (c:=k) Y.out.2.2.1 Y.out.2.1 Zfq ZbG;rw[Y.out.1]at this;exact this
   go_wp2_with (go_at_call 288;refine(FQ _ _ _ u.out).mono ?_;rintro e M ⟨g,rfl,xb,Q⟩);go_ret;refine⟨g,rfl,?_,Y.out.2.2.2.2.trans Q⟩;rw[Bo Y.out.2.1,xa.out]at xb;exact xb
theorem Kp(va vb:Value)(g R:List Nat)(w:World)(l:Words w va g)(G:Words w vb R)(h:g.length<=4398046511104)(V:R.length<=4398046511104) :
  Calls prog 278 #[va,vb] w λe M=>∃s,e=.returned s/\Words M s (Aw (val g*val R))/\Ext w M:=by
 obtain⟨A,c,rfl,I,xt,F⟩:=l.open_;obtain⟨B,d,rfl,L,xA,N⟩:=G.open_;have xl:=Af l.small;have xr:=Af G.small;clear l G;have hA:=Af F;have hB:=Af N;clear F N;obtain⟨n,xa⟩:∃n,n=g.length:=⟨_,rfl⟩;obtain⟨m,xc⟩:∃m,m=R.length:=⟨_,rfl⟩;rw[<-xa]at I h ⊢;rw[<-xc]at L V ⊢;replace xa:=Af xa;replace xc:=Af xc;have xq:=λW=>CB (n+m) ZbG .i64 .i64 W;simp only[Ycq]at xq;go_enter func278,ntmps278;go_wp2;go_loopw [6] (λi wr=>∃(k:Nat) (r:List Nat),k<=n/\i=.int .i64 k/\Hid (A1n w wr g R r n m k)) (λi _=>n-(intOf i).toNat)
 case atStart => exact ⟨0, List.replicate (n + m) 0, Yaw _, rfl, by simp, Cx _, Blk.new _ _ _, by
  have:∀q,val (List.replicate q 0)=0:=λq=>by
   induction q with
   |zero=>rfl
   |succ q H=>simp[YdZ,val,H]
  simp[val,List.take_replicate,this],(Ext.refl _).alloc _⟩
 case round=>
  obtain⟨k,r,E,rfl,Y⟩:=hrel;by_cases O:k<n
  .obtain ⟨b, o, rfl, G, xb⟩:=hA.out (by rw [<-xa.out]; omega)
   replace xb:=(Y.out.2.2.2.2.cell (p:=⟨b,o+k,none⟩) G).trans (xb k (by rw[<-xa.out];omega));have xg:=Be xl.out k;generalize F:g.getD k 0=x at *;replace F:=Af F;unfold BB at xg;go_wp2;obtain⟨wo,rfl⟩:∃wo:World,wo=wr:=⟨_,rfl⟩;go_loopw [7,8] (λcy i wr=>∃(j Z:Nat) (r:List Nat),j<=m/\i=.int .i64 j/\cy=.int .u64 Z/\Z<4294967296/\Hid (MulIn w wr g R r n m k j x Z)) (λ_ i _=>m-(intOf i).toNat)
   case atStart=>exact⟨0,0,r,Yaw _,rfl,rfl,by omega,Y.out.1,Y.out.2.1,Y.out.2.2.1,by simp[val,Y.out.2.2.2.1],Y.out.2.2.2.2⟩
   case round=>
    obtain⟨j,Z,r,J,rfl,rfl,xm,f⟩:=hrel;by_cases xw:j<m
    .obtain ⟨X, t, rfl, xd, xs⟩:=hB.out (by rw [<-xc.out]; omega)
     replace xs:=(f.out.2.2.2.2.cell (p:=⟨X,t+j,none⟩) xd).trans (xs j (by rw[<-xc.out];omega));have xj:=Be xr.out j;have xk:=Be f.out.2.1 (k+j);have P:wr.cell? ⟨w.heap.size,k+j,none⟩=some (.int .u32 (r.getD (k+j) 0:Nat)):=by rw[f.out.2.2.1.cell,Ed (by rw[f.out.1];omega)]
     have xh:=f.out.2.2.1.frozen (k+j);generalize N:R.getD j 0=y at *;generalize u:r.getD (k+j) 0=z at *;replace N:=Af N;replace u:=Af u;unfold BB at xj xk;have xF:wr.cell? ⟨b,o+k,none⟩=some (.int .u32 (x:Int)):=(f.out.2.2.2.2.cell (p:=⟨b,o+k,none⟩) G).trans ((Y.out.2.2.2.2.cell (p:=⟨b,o+k,none⟩) G).symm.trans xb);have xi:=Af (A2K x y z Z xg xj xk xm);have xn:(x:Int)*y+z+Z<=18446744073709551615:=xi.out.2.2.2.2.2;have xo:0<=(x:Int)*y+z+Z:=xi.out.2.2.2.2.1;have xG:¬n<=k:=by omega
     have xu:¬m<=j:=by omega
     have xH:¬n+m<=k+j:=by omega
     have xy:IntKind.i64.wrap ((k:Int)+j)=(k:Int)+j:=IntWalk.i64_in _ ZbG;have xz:((k:Int)+j).toNat=k+j:=by omega
     have xI:(k:Int)+j<(n:Int)+m:=by omega
     have xJ:0<=(k:Int)+j:=by omega
     have xC:Hid (IntKind.u64.wrap (x:Int)=x):=Af (IntWalk.u64_in _ ZbG);have xD:Hid (IntKind.u64.wrap (y:Int)=y):=Af (IntWalk.u64_in _ ZbG);have xE:Hid (IntKind.u64.wrap (z:Int)=z):=Af (IntWalk.u64_in _ ZbG);replace xy:=Af xy;replace xz:=Af xz;go_upto_region 9 with(fail)
     refine wp_region_v ZbK [[], [], [(28, 0), (29, 1)], [(30, 2)], [(31, 3)], [], [], [(33, 5), (34, 6)], [(35, 7)], [(36, 8)], [(32, 4), (37, 9)], [], [], [], [(40, 12), (41, 13)], [(39, 11), (42, 14)], [(43, 15)], [(44, 16)], [(38, 10), (45, 17)], [], [(46, 18), (47, 19)]] [[], [], [0, 1], [0, 1, 2], [0, 1, 2, 3], [], [], [5, 6], [5, 6, 7], [5, 6, 7, 8], [0, 1, 2, 3, 4, 5, 6, 7, 8, 9], [], [], [], [12, 13], [11, 12, 13, 14], [11, 12, 13, 14, 15], [11, 12, 13, 14, 15, 16], [0, 1, 2, 3, 4, 5, 6, 7, 8, 9, 10, 11, 12, 13, 14, 15, 16, 17], [], [0, 1, 2, 3, 4, 5, 6, 7, 8, 9, 10, 11, 12, 13, 14, 15, 16, 17, 18, 19]]
      [λv _=>v=.slice (some ⟨b,o,none⟩) n c,λv _=>v=.int .i64 (k:Int),λv _=>v=.pointer (some ⟨b,o+k,none⟩),λv _=>v=.int .u32 (x:Int),λv _=>v=.int .u64 (x:Int),λv _=>v=.slice (some ⟨X,t,none⟩) m d,λv _=>v=.int .i64 (j:Int),λv _=>v=.pointer (some ⟨X,t+j,none⟩),λv _=>v=.int .u32 (y:Int),λv _=>v=.int .u64 (y:Int),λv _=>v=.int .u64 ((x:Int)*y),λv _=>v=.slice (some ⟨w.heap.size,0,none⟩) (n+m) (n+m),λv _=>v=.int .i64 (k:Int),λv _=>v=.int .i64 (j:Int),λv _=>v=.int .i64 ((k:Int)+j),λv _=>v=.pointer (some ⟨w.heap.size,k+j,none⟩),λv _=>v=.int .u32 (z:Int),λv _=>v=.int .u64 (z:Int),λv _=>v=.int .u64 ((x:Int)*y+z),λv _=>v=.int .u64 (Z:Int),λv _=>v=.int .u64 ((x:Int)*y+z+Z)]
      rfl ZbK ZbK ?stab ?steps ?fin
     case stab=>exact .cons (Stab.eq _) (.cons (Stab.eq _) (.cons (Stab.eq _) (.cons (Stab.eq _) (.cons (Stab.eq _) (.cons (Stab.eq _) (.cons (Stab.eq _) (.cons (Stab.eq _) (.cons (Stab.eq _) (.cons (Stab.eq _) (.cons (Stab.eq _) (.cons (Stab.eq _) (.cons (Stab.eq _) (.cons (Stab.eq _) (.cons (Stab.eq _) (.cons (Stab.eq _) (.cons (Stab.eq _) (.cons (Stab.eq _) (.cons (Stab.eq _) (.cons (Stab.eq _) (.cons (Stab.eq _) .nil))))))))))))))))))))
     case steps=>
      refine .cons ?s0 (.cons ?s1 (.cons ?s2 (.cons ?s3 (.cons ?s4 (.cons ?s5 (.cons ?s6 (.cons ?s7 (.cons ?s8 (.cons ?s9 (.cons ?s10 (.cons ?s11 (.cons ?s12 (.cons ?s13 (.cons ?s14 (.cons ?s15 (.cons ?s16 (.cons ?s17 (.cons ?s18 (.cons ?s19 (.cons ?s20 .nil))))))))))))))))))))
      case s0=>
       intro M S Q E l I p;have e0:S (.tmp 0)=.slice (some ⟨b,o,none⟩) n c:=l 0 ZbL;exact AB (by simp[execOp,e0,go_sem]) rfl
      case s1=>
       intro M S Q E l I p;exact ZiJ
      case s2=>
       intro M S Q E l I p;have xB:S (.tmp 28)=.slice (some ⟨b,o,none⟩) n c:=E.1 _ rfl;have xK:S (.tmp 29)=.int .i64 (k:Int):=E.2.1 _ rfl;exact AB (by simp[execOp,xB,xK,xG,go_sem]) rfl
      case s3=>
       intro M S Q E l I p;have xL:S (.tmp 30)=.pointer (some ⟨b,o+k,none⟩):=E.1 _ rfl;have a:M.cell? ⟨b,o+k,none⟩=some (.int .u32 (x:Int)):=Q.cellv xF;exact AB (by simp[execOp,xL,a,go_sem]) rfl
      case s4=>
       intro M S Q E l I p;have xM:S (.tmp 31)=.int .u32 (x:Int):=E.1 _ rfl;exact AB (by simp[execOp,xM,xC.out,go_sem]) rfl
      case s5=>
       intro M S Q E l I p;have K:S (.tmp 1)=.slice (some ⟨X,t,none⟩) m d:=l 1 ZbL;exact AB ZdN rfl
      case s6=>
       intro M S Q E l I p;exact ZiK
      case s7=>
       intro M S Q E l I p;have xO:S (.tmp 33)=.slice (some ⟨X,t,none⟩) m d:=E.1 _ rfl;have xP:S (.tmp 34)=.int .i64 (j:Int):=E.2.1 _ rfl;exact AB (by simp[execOp,xO,xP,xu,go_sem]) rfl
      case s8=>
       intro M S Q E l I p;have xQ:S (.tmp 35)=.pointer (some ⟨X,t+j,none⟩):=E.1 _ rfl;have a:M.cell? ⟨X,t+j,none⟩=some (.int .u32 (y:Int)):=Q.cellv xs;exact AB (by simp[execOp,xQ,a,go_sem]) rfl
      case s9=>
       intro M S Q E l I p;have xR:S (.tmp 36)=.int .u32 (y:Int):=E.1 _ rfl;exact AB (by simp[execOp,xR,xD.out,go_sem]) rfl
      case s10=>
       intro M S Q E l I p;have xN:S (.tmp 32)=.int .u64 (x:Int):=E.1 _ rfl;have xS:S (.tmp 37)=.int .u64 (y:Int):=E.2.1 _ rfl;exact AB (by simp[execOp,xN,xS,xi.out.1,go_sem]) rfl
      case s11=>
       intro M S Q E l I p;have e5:S (.tmp 5)=.slice (some ⟨w.heap.size,0,none⟩) (n+m) (n+m):=l 5 ZbL;exact AB (by simp[execOp,e5,go_sem]) rfl
      case s12=>
       intro M S Q E l I p;exact ZiJ
      case s13=>
       intro M S Q E l I p;exact ZiK
      case s14=>
       intro M S Q E l I p;have xV:S (.tmp 40)=.int .i64 (k:Int):=E.1 _ rfl;have xW:S (.tmp 41)=.int .i64 (j:Int):=E.2.1 _ rfl;exact AB (by simp[execOp,xV,xW,xy.out,go_sem]) rfl
      case s15=>
       intro M S Q E l I p;have xU:S (.tmp 39)=.slice (some ⟨w.heap.size,0,none⟩) (n+m) (n+m):=E.1 _ rfl;have xX:S (.tmp 42)=.int .i64 ((k:Int)+j):=E.2.1 _ rfl;exact AB (by simp[execOp,xU,xX,xH,xz.out,xI,xJ,go_sem]) rfl
      case s16=>
       intro M S Q E l I p;have xY:S (.tmp 43)=.pointer (some ⟨w.heap.size,k+j,none⟩):=E.1 _ rfl;have a:M.cell? ⟨w.heap.size,k+j,none⟩=some (.int .u32 (z:Int)):=Q.cellv P;exact AB (by simp[execOp,xY,a,go_sem]) rfl
      case s17=>
       intro M S Q E l I p;have xZ:S (.tmp 44)=.int .u32 (z:Int):=E.1 _ rfl;exact AB (by simp[execOp,xZ,xE.out,go_sem]) rfl
      case s18=>
       intro M S Q E l I p;have xT:S (.tmp 38)=.int .u64 ((x:Int)*y):=E.1 _ rfl;have ya:S (.tmp 45)=.int .u64 (z:Int):=E.2.1 _ rfl;exact AB (by simp[execOp,xT,ya,xi.out.2.1,go_sem]) rfl
      case s19=>
       intro M S Q E l I p;have e7:S (.tmp 7)=.int .u64 (Z:Int):=l 7 ZbL;exact AB ZeR rfl
      case s20=>
       intro M S Q E l I p;have yb:S (.tmp 46)=.int .u64 ((x:Int)*y+z):=E.1 _ rfl;have yc:S (.tmp 47)=.int .u64 (Z:Int):=E.2.1 _ rfl;exact AB (by simp[execOp,yb,yc,xi.out.2.2.1,go_sem]) rfl
     case fin=>
      intro gf M Q hF;have xv:=hF 20 _ rfl;simp only[Yay,Ybk,Nat.reduceAdd,Ybf,YaP,Ybe,YbR,Fw,Act.put,YaW,Ybw,YbD,xv];replace Q:=Af ((Ext.refl _).drew.trans Q);have xx:Hid (MulIn w M g R r n m k j x Z):=⟨f.out.1,f.out.2.1,f.out.2.2.1.ext Q.out,f.out.2.2.2.1,f.out.2.2.2.2.trans Q.out⟩;replace P:=Q.out.cellv P;replace xh:=xx.out.2.2.1.frozen (k+j);clear hF xv Q f xb xs xF xy xz xG xu xH xI xJ xC xD xE;have xp:=Af (xx.out.step (u:=((x:Int)*y+z+Z)%4294967296) (v:=((x:Int)*y+z+Z)/4294967296) xw O N.out u.out xg xj xk xm (by rw[BE];simp) (by rw[BE];simp));generalize (x:Int)*y+z+Z=T at *;go_wp2;exact⟨by first | exact xp.out | (rw[Int.emod_emod_of_dvd];exact xp.out),by simp[intOf];omega⟩
    .obtain rfl:j=m:=by omega
     have P:wr.cell? ⟨w.heap.size,k+j,none⟩=some (.int .u32 (r.getD (k+j) 0:Nat)):=by rw[f.out.2.2.1.cell,Ed (by rw[f.out.1];omega)]
     have xh:=f.out.2.2.1.frozen (k+j);have xe:=Af (f.out.close O xc.out.symm F.out xm);go_wp2;exact⟨⟨k+1,_,O,by simp,xe⟩,by simp[intOf];omega⟩
  .obtain rfl:k=n:=by omega
   have U:Hid (Words wr (.slice (some ⟨w.heap.size,0,none⟩) (k+m) (k+m)) r):=by
    have:=CI (c:=k+m) Y.out.2.2.1 Y.out.2.1 Zfq ZbG;rw[Y.out.1]at this;exact this
   have xe:Hid (val r=val g*val R):=by
    have C:=Y.out.2.2.2.1;have er:r.take (k+m)=r:=Yar Zfq;have ea:g.take k=g:=Yar (by rw[<-xa.out];omega);rw[er,ea]at C;exact C
   go_wp2_with (go_at_call 288;refine(FQ _ _ _ U.out).mono ?_;rintro e M ⟨s,rfl,xf,Q⟩);go_ret;refine⟨s,rfl,?_,Y.out.2.2.2.2.trans Q⟩;rw[Bo Y.out.2.1,xe.out]at xf;exact xf
theorem HD(s Z:Value)(x y:Nat)(w:World)(l:Words w s (Aw x))(I:Words w Z (Aw y)) :
  Calls prog 276 #[s,Z] w λe M=>e=.returned (.int .i64 (Fx x y))/\Ext w M:=by
 obtain⟨A,c,rfl,J,r,G⟩:=l.open_;obtain⟨B,d,rfl,L,v,N⟩:=I.open_;clear l I;have W:=Af G;have f:=Af N;clear G N;obtain⟨n,U⟩:∃n,n=(Aw x).length:=⟨_,rfl⟩;obtain⟨m,P⟩:∃m,m=(Aw y).length:=⟨_,rfl⟩;rw[<-U]at J ⊢;rw[<-P]at L ⊢;replace U:=Af U;replace P:=Af P;rcases Ycm n m with O | heq | hgt
 .have S:decide ((n:Int)<m)=true:=ZiB
  have H:decide ((m:Int)<n)=false:=ZiB
  go_enter func276,ntmps276;go_wp2;exact Zic
 .subst heq
  have S:decide ((n:Int)<n)=false:=by simp
  go_enter func276,ntmps276;go_wp2;go_loopw [5] (λi wr=>∃k:Nat,k<=n/\i=.int .i64 ((k:Int)-1)/\Hid (Ext w wr/\∀i,k<=i->(Aw x).getD i 0=(Aw y).getD i 0)) (λi _=>(intOf i+1).toNat)
  case atStart=>exact Zao
  case round=>
   obtain⟨k,F,rfl,Q⟩:=hrel;by_cases g:k=0
   .exact Zap
   .obtain ⟨q, rfl⟩:∃q, k=q+1:=⟨k-1, by omega⟩
    obtain⟨b,o,rfl,I,V⟩:=W.out Zct;replace V:=(Q.out.1.cell (p:=⟨b,o+q,none⟩) I).trans (V q Zct);obtain⟨z,t,rfl,T,p⟩:=f.out ZeE;replace p:=(Q.out.1.cell (p:=⟨z,t+q,none⟩) T).trans (p q ZeE);generalize h:(Aw x).getD q 0=X at *;generalize j:(Aw y).getD q 0=Y at *;replace h:=Af h;replace j:=Af j;have a:((q+1:Nat):Int)-1=q:=by omega
    rw[a];rcases Ycm X Y with O | heq | hgt
    .have u:decide ((X:Int)<Y)=true:=ZiB
     go_wp2;go_quiet (fail);go_wp2;go_ret;exact⟨by rw[SK (k:=q) ZdT Zct (λi K=>Q.out.2 i K) (by rw[h.out,j.out];exact O)];rfl,Q.out.1.drewN _⟩
    .subst heq
     have u:decide ((X:Int)<X)=false:=by simp
     go_wp2;go_quiet (fail);go_wp2;go_quiet (fail);go_wp2;refine⟨⟨q,by omega,rfl,Q.out.1.drewN _,λi K=>?_⟩,by simp[intOf]⟩;rcases YaD q i with C | C
     .exact Q.out.2 i C
     .obtain rfl:i=q:=by omega
      rw[h.out,j.out]
    .have u:decide ((X:Int)<Y)=false:=ZiB
     have xa:decide ((Y:Int)<X)=true:=ZiB
     have R:¬((X:Int)<Y):=by omega
     go_wp2;go_quiet (fail);go_wp2;go_quiet (fail);go_wp2;exact ZgV
 .have S:decide ((n:Int)<m)=false:=ZiB
  have H:decide ((m:Int)<n)=true:=ZiB
  go_enter func276,ntmps276;go_wp2;exact ZhW
theorem NN(s:Value)(Z:List Nat)(d:Nat)(w:World)(l:Words w s Z)(h:Z.length<=4398046511104)(a:0<d)(f:d<4294967296) :
  Calls prog 310 #[s,.int .u64 d] w λe M=>∃J,e=.returned (.tuple #[J,.int .u64 (val Z%d:Nat)])/\Words M J (Aw (val Z/d))/\Ext w M:=by
 obtain⟨A,c,rfl,G,j,E⟩:=l.open_;have H:=Af l.small;clear l;have L:=Af E;clear E;obtain⟨n,U⟩:∃n,n=Z.length:=⟨_,rfl⟩;rw[<-U]at G h ⊢;replace U:=Af U;have g:=λW=>CB n (by omega) .i64 .i64 W;go_enter func310,ntmps310;go_wp2;go_loopw [7,8] (λt i wr=>∃(k r:Nat) (q:List Nat),k<=n/\i=.int .i64 ((k:Int)-1)/\t=.int .u64 r/\r<d/\Hid (DsRel w wr Z q d n k r)) (λ_ i _=>(intOf i+1).toNat)
 case atStart => exact ⟨n, 0, List.replicate n 0, Yah _, rfl, rfl, a, by simp, Cx _, Blk.new _ _ _, by
  have B:Z.drop n=[]:=YaL (by rw[<-U.out];omega);rw[B];simp[val],(Ext.refl _).alloc _⟩
 case round=>
  obtain⟨k,r,q,C,rfl,rfl,V,I⟩:=hrel;by_cases Y:k=0
  .subst Y
   have K:Hid (Words wr (.slice (some ⟨w.heap.size,0,none⟩) n n) q):=by
    have:=CI (c:=n) I.out.2.2.1 I.out.2.1 (by rw[I.out.1];omega) (by omega);rw[I.out.1]at this;exact this
   have u:Hid (val Z/d=val q/\val Z%d=r):=by
    have B:=I.out.2.2.2.1;simp only[YaP]at B;rw[B];constructor
    .rw [YaN,YcR a,YbJ V,Ybi]
    .rw [YaN,Ydu,YaS V]
   go_wp2_with (go_at_call 288;refine(FQ _ _ _ K.out).mono ?_;rintro e M ⟨J,rfl,m,Q⟩);go_ret2;refine⟨J,by rw[u.out.2];rfl,?_,I.out.2.2.2.2.trans Q⟩;rw[Bo I.out.2.1,<-u.out.1]at m;exact m
  .obtain ⟨k, rfl⟩:∃q, k=q+1:=⟨k-1, by omega⟩
   obtain⟨b,o,rfl,F,N⟩:=L.out (by rw[<-U.out];omega);replace N:=(I.out.2.2.2.2.cell (p:=⟨b,o+k,none⟩) F).trans (N k (by rw[<-U.out];omega));have O:=Be H.out k;have P:wr.cell? ⟨w.heap.size,k,none⟩=some (.int .u32 (q.getD k 0:Nat)):=by rw[I.out.2.2.1.cell,Ed (by rw[I.out.1];omega)]
   have S:=I.out.2.2.1.frozen k;generalize E:Z.getD k 0=x at *;replace E:=Af E;unfold BB at O;have X:((k+1:Nat):Int)-1=k:=by omega
   rw[X];have u:Hid (((r:Int)*4294967296+x)/d%4294967296=((r*4294967296+x)/d:Nat)/\((r:Int)*4294967296+x)%d=((r*4294967296+x)%d:Nat)):=A0y V O f;go_wp2;refine⟨⟨k,(r*4294967296+x)%d,_,by omega,rfl,by rw[u.out.2],YaV _ a,I.out.step C U.out.symm E.out a V f O u.out.1⟩,by simp[intOf]⟩
theorem Qf(v:Value)(l:List Nat)(w:World)(h:Words w v l)(A:l.length<=2) :
  Calls prog 315 #[v] w λe M=>e=.returned (.int .u64 (val l:Nat))/\w=M:=by
 have d:=Be h.small 0;have q:=Be h.small 1
 have r:Hid (val l=l.getD 0 0+BB*l.getD 1 0):=by
  match l,A with
  |[],_=>simp[val,Hid]
  |[a],_=>simp[val,Hid]
  |[a,b],_=>simp[val,Hid]
 replace h:=Af h;generalize C:l.getD 0 0=x at *;generalize N:l.getD 1 0=y at *;replace C:=Af C;replace N:=Af N;unfold BB at d q;go_enter func315,ntmps315;go_wp2_with fail;refine(Ii v l 1 y _ h.out N.out).mono ?_;rintro e g ⟨rfl,rfl⟩;go_wp2_with fail;refine(Ii v l 0 x _ h.out C.out).mono ?_;rintro e g ⟨rfl,rfl⟩;go_wp2;go_ret;exact⟨by rw[r.out,BE,show x+4294967296*y=y*4294967296+x by omega];rfl,rfl⟩
theorem Za(a b:Nat)(w:World)(l:a<18446744073709551616)(E:b<18446744073709551616) :
  Calls prog 314 #[.int .u64 a,.int .u64 b] w λe M=>e=.returned (.int .u64 (Nat.gcd a b:Nat))/\w=M:=by
 go_enter func314,ntmps314;go_wp2;go_loop [0,1] (λx y=>∃p q:Nat,p<18446744073709551616/\q<18446744073709551616/\x=.int .u64 p/\y=.int .u64 q/\Hid (Nat.gcd p q=Nat.gcd a b)) (λ_ y=>(intOf y).toNat)
 case atStart=>exact⟨a,b,l,E,rfl,rfl,rfl⟩
 case round=>
  obtain⟨p,q,G,k,rfl,rfl,T⟩:=hrel;by_cases d:q=0
  .subst d
   go_wp2;go_ret;exact⟨by rw[<-T.out,Nat.gcd_zero_right];rfl,rfl⟩
  .have B:0<q:=by omega
   have A:decide ((0:Int)<q)=true:=by simpa using B
   obtain⟨r,V⟩:∃r,r=p%q:=⟨_,rfl⟩;have g:(p:Int)%(q:Int)=(r:Int):=by rw[V];rfl
   have O:r<q:=by rw[V];exact YaV _ B
   replace V:=Af V;go_wp2;go_round
   case rel=>exact⟨q,r,k,by omega,rfl,by rw[<-g],by rw[V.out,<-T.out,YcM p q,YeL q p];exact YcM _ _⟩
   case measure=>simp[intOf];omega
theorem Win.ext{b:Nat}{pre x post:List Nat}(h:Win w b pre x post)(a:Ext w p):Win p b pre x post:=Blk.ext h a
theorem Only.ext{b:Nat}(h:Only b w p)(a:Ext p uC):Only b w uC:=⟨a.os.trans h.os,a.tape.trans h.tape,a.output.trans h.output,Yat h.size a.size,λk B q=>(a.block (Yaq B h.size)).trans (h.block k B q)⟩
def Zc(w:World)(u v:List Nat)(e:Ending)(M:World):Prop:=∃q:Nat,e=.returned (.int .u64 q)/\q<BB/\val u/val v<=q/\q*val v<val u+val v/\Ext w M
def Aak(w:World)(V X Y:Nat)(u v:List Nat)(q r:Value)(x:World):Prop:=
 ∃A o:Nat,q=.int .u64 A/\r=.int .u64 o/\o<4294967296/\A<=8589934592/\Hid (A*V+o=Y+BB*X/\val u/val v<=A)/\Hid (Ext w x)
set_option maxRecDepth 1000000 in
theorem A0Q(b s ov n cu cv:Nat)(pre post u v:List Nat)(w:World)(J:Win w b pre u post)(S:u.length=n+1)(E:v.length=n)(xd:2<=n)(h:n<=4398046511104)(f:BN u)(W:BN v)
  (xe:∀i,i<n->w.cell? ⟨s,ov+i,none⟩=some (.int .u32 (v.getD i 0:Nat))) (xm:n+1<=cu) (xi:n<=cv) (xg:2147483648<=v.getD (n-1) 0) (O:val u<BB*val v) :
  Calls prog 311 #[.slice (some ⟨b,pre.length,none⟩) (n+1) cu,.slice (some ⟨s,ov,none⟩) n cv] w (Zc w u v):=by
 obtain⟨m,rfl⟩:∃m,n=m+2:=⟨n-2,by omega⟩;have N:=Af (A8W S E f W Zej O);have xc:=J.cell (k:=m+2) ZbG;have g:=J.cell (k:=m+1) ZbG;have c:=J.cell (k:=m) ZbG;have U:=xe (m+1) ZbG;have z:=xe m ZbG;have xb:=Be f (m+2);have xl:=Be f (m+1);have xr:=Be f m;have y:=Be W (m+1);have xf:=Be W m;have xy:2147483648<=v.getD (m+1) 0:=xg;generalize xs:u.getD (m+2) 0=H at *;generalize xt:u.getD (m+1) 0=R at *;generalize xq:u.getD m 0=U2 at *;generalize xu:v.getD (m+1) 0=Q at *;generalize xv:v.getD m 0=V2 at *;replace xs:=Af xs;replace xt:=Af xt;replace xq:=Af xq;replace xu:=Af xu;replace xv:=Af xv;unfold BB at xb xl xr y xf;replace J:=Af J;replace S:=Af S;replace E:=Af E;replace f:=Af f;replace W:=Af W;replace xe:=Af xe;replace O:=Af O;clear xg;generalize M:pre.length=P at *;replace M:=Af M;have x:m<=4398046511102:=by omega
 clear h xd;go_enter func311,ntmps311;go_wp2;go_quiet (fail)
 have I:Hid (((H:Int)*4294967296+R)/Q=((R+BB*H)/Q:Nat)/\((H:Int)*4294967296+R)%Q=((R+BB*H)%Q:Nat)):=by
  have e:(H:Int)*4294967296+R=((R+BB*H:Nat):Int):=by rw[BE];omega
  exact Zij
 go_upto_block 0 with(fail)
 rw[I.out.1,I.out.2];go_cut [7,8] (λq r wx=>∃qn:Nat,q=.int .u64 qn/\qn<4294967296/\Hid (val u/val v<=qn/\qn*val v<val u+val v)/\Hid (Ext w wx))
 case first=>
  go_wp2;go_loopw [7,8] (λq r wx=>Aak w Q H R u v q r wx) (λq _ _=>(intOf q).toNat)
  case atStart=>
   have j:0<Q:=by omega
   refine⟨_,_,rfl,rfl,?_,?_,⟨?_,?_⟩,?_⟩
   .have:=YaV (R+BB*H) j;omega
   .refine YbV (Yby ?_)
    have:2147483648*8589934592<=Q*8589934592:=YaC _ xy;rw[BE];omega
   .rw [YaN];exact YcY _ _
   .exact N.out.start
   .exact (Ext.refl _).drewN _
  case round=>
   obtain⟨q,r,rfl,rfl,V,k,F,d⟩:=hrel;have Z:=d.out.cellv c;have o:wr.cell? ⟨s,ov+(m+1),none⟩=some (.int .u32 (Q:Nat)):=d.out.cellv U;have T:wr.cell? ⟨s,ov+m,none⟩=some (.int .u32 (V2:Nat)):=d.out.cellv z;clear xc g c U z;have xw:=Af (λL=>N.out.down F.out.1 F.out.2 (q:=q) (r:=r) L);have a:Hid (∀q' l,q'*Q+l=R+BB*H->val u/val v<=q'->q'<BB->q'*V2<=l*BB+U2->val u/val v<=q'/\q'*val v<val u+val v):=λq' l A B K Y=>⟨B,N.out.after A K Y⟩;have xx:Hid (∀q' l,q'*Q+l=R+BB*H->BB<=l->q'<BB/\q'*V2<=l*BB+U2):=λq' l A B=>N.out.great A B;by_cases t:4294967296<=q
   .have xk:decide ((4294967296:Int)<=q)=true:=ZiB
    replace t:=Af t;replace k:=Af k;have C:=Af (xw.out (.inl (by rw[BE];exact t.out)));by_cases p:4294967296<=r+Q
    .have xp:(4294967296:Int)<=(r:Int)+Q:=by omega
     replace p:=Af p;go_wp2;go_quiet (fail);have X:(1:Int)<=q:=by have:=t.out;omega
     have xj:(q:Int)<=8589934592:=by have:=k.out;omega
     clear xk;go_wp2;go_meet
     case rel=>
      exact Zgt
    .have xp:decide ((4294967296:Int)<=(r:Int)+Q)=false:=ZiB
     replace p:=Af p;go_wp2;go_quiet (fail);have X:(1:Int)<=q:=by have:=t.out;omega
     have xj:(q:Int)<=8589934592:=by have:=k.out;omega
     clear xk;exact Zgz
   .have xk:decide ((4294967296:Int)<=q)=false:=ZiB
    have xo:q<4294967296:=by omega
    replace t:=Af t;replace k:=Af k;have G:(q:Int)*V2<=18446744065119617025:=by have:=FN xo xf;omega
    have xa:(0:Int)<=(q:Int)*V2:=Yco ZbG ZbG;by_cases xh:r*4294967296+U2<q*V2
    .have xn:decide ((r:Int)*4294967296+U2<(q:Int)*V2)=true:=ZiB
     have C:=Af (xw.out (.inr (by rw[BE];exact xh)));replace xh:=Af xh;have X:(1:Int)<=q:=by have:=C.out.1;omega
     by_cases p:4294967296<=r+Q
     .have xp:decide ((4294967296:Int)<=(r:Int)+Q)=true:=ZiB
      replace p:=Af p;go_wp2;go_quiet (fail);clear G xa xn xk;go_wp2;go_meet
      case rel=>
       exact Zgt
     .have xp:decide ((4294967296:Int)<=(r:Int)+Q)=false:=ZiB
      replace p:=Af p;go_wp2;go_quiet (fail);clear G xa xn xk;exact Zgz
    .have xn:decide ((r:Int)*4294967296+U2<(q:Int)*V2)=false:=ZiB
     replace xh:=Af xh;go_wp2;go_quiet (fail);go_wp2;go_meet
     case rel=>exact⟨q,rfl,xo,a.out _ _ F.out.1 F.out.2 (by rw[BE];exact xo) (by have:=xh.out;rw[BE];omega),d.out.drewN _⟩
 case rest=>
  obtain⟨q,rfl,k,F,d⟩:=hcut;clear xc g c U z;go_wp2;go_ret;exact⟨q,rfl,by rw[BE];exact k,F.out.1,F.out.2,d.out⟩
def LsRel(w wr:World)(b:Nat)(pre post u v x:List Nat)(n q k cy A:Nat):Prop:=
 x.length=n/\BN x/\Win wr b pre x post/\Only b w wr/\val (x.take k)+q*val (v.take k)=val (u.take k)+BB^k*(cy+A)/\(∀i,k<=i->x.getD i 0=u.getD i 0)/\(v.length<k->cy=0)
theorem LsRel.step{pre post u v x:List Nat}{A q k cy W y z:Nat}(h:LsRel w p n pre post u v x A q k cy W)(E:k<A)(N:v.getD k 0=y)(L:x.getD k 0=z)(P:z<BB)(F:W<=1)(c:cy<BB){e:Int}
  (a:e=(z+BB*(if z<(q*y+cy)%BB+W then 1 else 0)-(q*y+cy)%BB-W:Nat)) :
  LsRel w (p.setCell ⟨n,pre.length+k,none⟩ (.int .u32 e)) n pre post u v (x.set k (z+BB*(if z<(q*y+cy)%BB+W then 1 else 0)-(q*y+cy)%BB-W)) A q (k+1) ((q*y+cy)/BB) (if z<(q*y+cy)%BB+W then 1 else 0):=by
 obtain⟨B,C,K,Y,G,Q,f⟩:=h;have M:=YaV (q*y+cy) CP;have o:z+BB*(if z<(q*y+cy)%BB+W then 1 else 0)-(q*y+cy)%BB-W<BB:=by split<;>omega
 have d:z+BB*(if z<(q*y+cy)%BB+W then 1 else 0)-(q*y+cy)%BB-W+((q*y+cy)%BB+W)=z+BB*(if z<(q*y+cy)%BB+W then 1 else 0):=by split<;>omega
 generalize (if z<(q*y+cy)%BB+W then 1 else 0:Nat)=S at *;generalize b:z+BB*S-(q*y+cy)%BB-W=X at *;refine⟨by simpa using B,Do C k o,by rw[a];exact K.set ZbG X,Y.set _ _,?_,λi J=>?_,λI=>?_⟩
 .rw [Bh, Ds, Cr ZbG, Bh u, Bh v, N, <-Q k (Yah _), L]
  have O:=YcF (q*y+cy) BB
  have V:BB^(k+1)*((q*y+cy)/BB+S)+BB^k*z=BB^k*X+q*(BB^k*y)+BB^k*(cy+W):=by
   have Z:BB*((q*y+cy)/BB+S)+z=X+q*y+(cy+W):=Zhr
   rw[Ybr,Ybb,<-YaE,Z,YaE,YaE,Ybl q]
  rw[YaE q];omega
 .rw [<-Q i ZbG]
  exact ZaF
 .have m:y=0:=by rw [<-N];simp [show v.length<=k by omega]
  rw[m,Yct,YaG];exact YbJ c
theorem A9w{q y c z d:Nat}(u:z<4294967296)(A:d<=1) :
  (4294967296+(z:Int)-((q:Int)*y+c)%4294967296-d)%4294967296=((z+BB*(if z<(q*y+c)%BB+d then 1 else 0)-(q*y+c)%BB-d:Nat):Int) /\
  1-(4294967296+(z:Int)-((q:Int)*y+c)%4294967296-d)/4294967296=((if z<(q*y+c)%BB+d then 1 else 0:Nat):Int) /\
  ((q:Int)*y+c)/4294967296=(((q*y+c)/BB:Nat):Int)/\0<=4294967296+(z:Int)-((q:Int)*y+c)%4294967296-d/\4294967296+(z:Int)-((q:Int)*y+c)%4294967296-d<=8589934591:=by
 have e:(q:Int)*y+c=((q*y+c:Nat):Int):=by simp[Ycq,Yds]
 have x:=YaV (q*y+c) CP;have B:((q:Int)*y+c)%4294967296=(((q*y+c)%BB:Nat):Int):=by rw[e,BE,Ydm];rfl
 have C:((q:Int)*y+c)/4294967296=(((q*y+c)/BB:Nat):Int):=by rw[e,BE,Ydl];rfl
 rw[B,C];generalize (q*y+c)%BB=p at *;rw[BE]at x ⊢;refine⟨?_,?_,rfl,by omega,by omega⟩<;>(split<;>omega)
def A8d(w:World)(b:Nat)(pre post u v:List Nat)(q:Nat)(e:Ending)(M:World):Prop:=
 ∃x:List Nat,e=.returned (.bool (decide (val u<q*val v)))/\x.length=u.length/\BN x/\Win M b pre x post/\Only b w M/\val x+q*val v=val u+BB^u.length*(if val u<q*val v then 1 else 0)
theorem LsRel.close{b:Nat}{pre post u v x:List Nat}{n q cy G:Nat}(h:LsRel w p b pre post u v x n q n cy G)(S:u.length=n)(r:v.length<n)(E:G<=1):G=(if val u<q*val v then 1 else 0)/\val x+q*val v=val u+BB^n*(if val u<q*val v then 1 else 0):=by
 obtain⟨A,B,K,Y,C,F,f⟩:=h;rw[Yar ZbG,Yar ZbG,Yar ZbG,f r,YaG]at C;have R:=Ej B;rw[A]at R
 have key:G=(if val u<q*val v then 1 else 0):=by
  rcases Yax G with d | d
  .subst d;rw[Yai ZbG]
  .have:G=1:=by omega
   subst this;rw[Yan ZbG]
 exact⟨key,by rw[<-key];exact C⟩
theorem YZ(b n l:Nat)(R:Value)(pre post u v:List Nat)(q P:Nat)(w:World)(M:pre.length=P)(L:Win w b pre u post)(S:u.length=n)(r:v.length<n)(E:n<=4398046511105)(Z:BN u)(V:BN v)
  (t:∀wr,Only b w wr->Words wr R v) (xb:n<=l) (F:q<BB) :
  Calls prog 312 #[.slice (some ⟨b,P,none⟩) n l,R,.int .u64 q] w (A8d w b pre post u v q):=by
 replace L:=Af L;replace S:=Af S;replace Z:=Af Z;replace V:=Af V;replace t:=Af t;replace M:=Af M;replace r:=Af r;unfold BB at F;go_enter func312,ntmps312;go_wp2;go_loopw [7,8,9] (λU Q i wr=>∃(k c d:Nat) (x:List Nat),k<=n/\i=.int .i64 k/\U=.int .u64 c/\Q=.int .u64 d/\c<4294967296/\d<=1/\Hid (LsRel w wr b pre post u v x n q k c d)) (λ_ _ i _=>n-(intOf i).toNat)
 case atStart=>exact⟨0,0,0,u,Yaw _,rfl,rfl,rfl,by omega,by omega,S.out,Z.out,L.out,Only.refl _ _,by simp[val],λ_ _=>rfl,λh=>by omega⟩
 case round=>
  obtain⟨k,c,d,x,C,rfl,rfl,rfl,xa,m,p⟩:=hrel;by_cases O:k<n
  .have o:decide ((k:Int)<n)=true:=by simpa using O
   have X:wr.cell? ⟨b,P+k,none⟩=some (.int .u32 (x.getD k 0:Nat)):=by
    have:=p.out.2.2.1.cell (k:=k) Zee;rw[M.out]at this;exact this
   have f:=p.out.2.2.1.frozen (P+k);have W:=Be V.out k;have Y:=Be p.out.2.1 k;generalize N:v.getD k 0=y at *;generalize I:x.getD k 0=z at *;replace N:=Af N;replace I:=Af I;unfold BB at W Y;have G:(q:Int)*y<=18446744065119617025:=by have:=FN F W;omega
   have j:(0:Int)<=(q:Int)*y:=Yco ZbG ZbG;have a:=Af (A9w (q:=q) (y:=y) (c:=c) (z:=z) (d:=d) Y m)
   have H:Hid ((q*y+c)/BB<4294967296):=by
    have:=FN F W;show _/BB<4294967296;rw[BE];omega
   have J:=Af (p.out.step O N.out I.out (by rw[BE];exact Y) m (cy:=c) (by rw[BE];exact xa) rfl);rw[M.out]at J;go_wp2_with fail;refine(Ii R v k y _ (t.out _ p.out.2.2.2.1) N.out).mono ?_;rintro e g ⟨rfl,rfl⟩;clear p;obtain⟨T,K⟩:∃T:Int,T=(q:Int)*y+c:=⟨_,rfl⟩;have xf:T<=18446744073709551615:=by omega
   have xe:0<=T:=by omega
   rw[<-K]at a;replace K:=Af K;have xc:0<=4294967296+(z:Int)-T%4294967296-d:=a.out.2.2.2.1;have xd:4294967296+(z:Int)-T%4294967296-d<=8589934591:=a.out.2.2.2.2;go_upto_region 7 with(fail)
   rw[<-K.out];clear G j;go_wp2;rw[a.out.1,a.out.2.1,a.out.2.2.1];exact⟨⟨k+1,_,_,_,O,by simp,rfl,rfl,H.out,by split<;>omega,J.out⟩,by simp[intOf];omega⟩
  .obtain rfl:k=n:=by omega
   have o:decide ((k:Int)<k)=false:=by simp
   obtain⟨A,B⟩:=p.out.close S.out r.out m;replace A:=Af A;replace B:=Af B;rcases(show d=0\/d=1 by omega)with rfl | rfl
   .go_wp2
    go_ret;have s:¬val u<q*val v:=λh=>by have:=A.out;rw[Yan h]at this;omega
    exact ZjQ
   .go_wp2
    go_ret
    have s:val u<q*val v:=by
     rcases YaD (val u) (q*val v)with h | h
     .exact h
     .have:=A.out;rw[Yai ZbG]at this;omega
    exact ZjQ
def RsRel(w wr:World)(b:Nat)(pre post r v x:List Nat)(n k Q:Nat):Prop:=
 x.length=n/\BN x/\Win wr b pre x post/\Only b w wr/\val (x.take k)+BB^k*Q=val (r.take k)+val (v.take k)/\∀i,k<=i->x.getD i 0=r.getD i 0
theorem RsRel.step{pre post r v x:List Nat}{q k Q y z:Nat}(h:RsRel w p n pre post r v x q k Q)(C:k<q)(N:v.getD k 0=y)(u:x.getD k 0=z)(d:y<BB)(P:z<BB)(F:Q<=1){e:Int}(a:e=((z+y+Q)%BB:Nat)) :
  RsRel w (p.setCell ⟨n,pre.length+k,none⟩ (.int .u32 e)) n pre post r v (x.set k ((z+y+Q)%BB)) q (k+1) ((z+y+Q)/BB)/\(z+y+Q)/BB<=1:=ZaG
def A8c(w:World)(b:Nat)(pre post u v:List Nat)(e:Ending)(M:World):Prop:=
 ∃(x:List Nat) (c:Nat),e=.returned (.tuple #[])/\x.length=u.length/\BN x/\Win M b pre x post/\Only b w M/\val x+BB^u.length*c=val u+val v/\c<=1
theorem Wy(b n o:Nat)(vv:Value)(pre post u v:List Nat)(P:Nat)(w:World)(I:pre.length=P)(L:Win w b pre u post)(S:u.length=n)(r:v.length<=n)(h:n<=4398046511105)(j:BN u)(Z:BN v)
  (xa:∀wr,Only b w wr->Words wr vv v) (xe:n<=o) :
  Calls prog 313 #[.slice (some ⟨b,P,none⟩) n o,vv] w (A8c w b pre post u v):=by
 replace L:=Af L;replace S:=Af S;replace j:=Af j;replace Z:=Af Z;replace xa:=Af xa;replace I:=Af I;replace r:=Af r;go_enter func313,ntmps313;go_wp2;go_loopw [4,5] (λU i wr=>∃(k c:Nat) (x:List Nat),k<=n/\i=.int .i64 k/\U=.int .u64 c/\c<=1/\Hid (RsRel w wr b pre post u v x n k c)) (λ_ i _=>n-(intOf i).toNat)
 case atStart=>exact⟨0,0,u,Yaw _,rfl,rfl,by omega,S.out,j.out,L.out,Only.refl _ _,by simp[val],λ_ _=>rfl⟩
 case round=>
  obtain⟨k,c,x,B,rfl,rfl,xc,K⟩:=hrel;by_cases O:k<n
  .have R:decide ((k:Int)<n)=true:=by simpa using O
   have a:wr.cell? ⟨b,P+k,none⟩=some (.int .u32 (x.getD k 0:Nat)):=by
    have:=K.out.2.2.1.cell (k:=k) (by rw[K.out.1];omega);rw[I.out]at this;exact this
   have d:=Be Z.out k;have f:=Be K.out.2.1 k;generalize N:v.getD k 0=y at *;generalize E:x.getD k 0=z at *;replace N:=Af N;replace E:=Af E;unfold BB at d f;have xn:=Af (xa.out _ K.out.2.2.2.1);have J:¬n<=k:=by omega
   have H:Hid (IntKind.u64.wrap (z:Int)=z):=Af (IntWalk.u64_in _ ZbG);have s:Hid (IntKind.u64.wrap ((z:Int)+y)=(z:Int)+y):=Af (IntWalk.u64_in _ ZbG);have t:Hid (IntKind.u64.wrap ((z:Int)+y+c)=(z:Int)+y+c):=Af (IntWalk.u64_in _ ZbG);go_upto_region 4 with(fail)
   refine wp_region_v ZbK [[], [], [(13, 0), (14, 1)], [(15, 2)], [(16, 3)], [], [], [(18, 5), (19, 6)], [(17, 4), (20, 7)], [], [(21, 8), (22, 9)]] [[], [], [0, 1], [0, 1, 2], [0, 1, 2, 3], [], [], [5, 6], [0, 1, 2, 3, 4, 5, 6, 7], [], [0, 1, 2, 3, 4, 5, 6, 7, 8, 9]]
    [λv _=>v=.slice (some ⟨b,P,none⟩) n o,λv _=>v=.int .i64 (k:Int),λv _=>v=.pointer (some ⟨b,P+k,none⟩),λv _=>v=.int .u32 (z:Int),λv _=>v=.int .u64 (z:Int),λv _=>v=vv,λv _=>v=.int .i64 (k:Int),λv _=>v=.int .u64 (y:Int),λv _=>v=.int .u64 ((z:Int)+y),λv _=>v=.int .u64 (c:Int),λv _=>v=.int .u64 ((z:Int)+y+c)]
    rfl ZbK ZbK ?stab ?steps ?fin
   case stab=>exact .cons (Stab.eq _) (.cons (Stab.eq _) (.cons (Stab.eq _) (.cons (Stab.eq _) (.cons (Stab.eq _) (.cons (Stab.eq _) (.cons (Stab.eq _) (.cons (Stab.eq _) (.cons (Stab.eq _) (.cons (Stab.eq _) (.cons (Stab.eq _) .nil))))))))))
   case steps=>
    refine .cons ?s0 (.cons ?s1 (.cons ?s2 (.cons ?s3 (.cons ?s4 (.cons ?s5 (.cons ?s6 (.cons ?s7 (.cons ?s8 (.cons ?s9 (.cons ?s10 .nil))))))))))
    case s0=>
     intro M A Q B l F p;have V:A (.tmp 0)=.slice (some ⟨b,P,none⟩) n o:=l 0 ZbL;exact AB (by simp[execOp,V,go_sem]) rfl
    case s1=>
     intro M A Q B l F p;exact ZiL
    case s2=>
     intro M A Q B l F p;have xf:A (.tmp 13)=.slice (some ⟨b,P,none⟩) n o:=B.1 _ rfl;have xo:A (.tmp 14)=.int .i64 (k:Int):=B.2.1 _ rfl;exact AB (by simp[execOp,xf,xo,J,go_sem]) rfl
    case s3=>
     intro M A Q B l F p;have xg:A (.tmp 15)=.pointer (some ⟨b,P+k,none⟩):=B.1 _ rfl;have X:M.cell? ⟨b,P+k,none⟩=some (.int .u32 (z:Int)):=Q.cellv a;exact AB (by simp[execOp,xg,X,go_sem]) rfl
    case s4=>
     intro M A Q B l F p;have xm:A (.tmp 16)=.int .u32 (z:Int):=B.1 _ rfl;exact AB (by simp[execOp,xm,H.out,go_sem]) rfl
    case s5=>
     intro M A Q B l F p;have q:A (.tmp 1)=vv:=l 1 ZbL;exact AB (by simp[execOp,q,go_sem]) rfl
    case s6=>
     intro M A Q B l F p;exact ZiL
    case s7=>
     intro M A Q B l F p;have xi:A (.tmp 18)=vv:=B.1 _ rfl;have xj:A (.tmp 19)=.int .i64 (k:Int):=B.2.1 _ rfl;refine Cz (by simp[execOp,resolve,invoke,p,xi,xj,go_sem]) (Ii _ v k y _ (xn.out.ext ((Ext.refl _).drew.trans Q)) N.out) ?_;rintro e g ⟨rfl,rfl⟩;exact⟨_,rfl,Ext.refl _,rfl⟩
    case s8=>
     intro M A Q B l F p;have xh:A (.tmp 17)=.int .u64 (z:Int):=B.1 _ rfl;have xd:A (.tmp 20)=.int .u64 (y:Int):=B.2.1 _ rfl;exact AB (by simp[execOp,xh,xd,s.out,go_sem]) rfl
    case s9=>
     intro M A Q B l F p;have Y:A (.tmp 4)=.int .u64 (c:Int):=l 4 ZbL;exact AB ZeV rfl
    case s10=>
     intro M A Q B l F p;have xk:A (.tmp 21)=.int .u64 ((z:Int)+y):=B.1 _ rfl;have xl:A (.tmp 22)=.int .u64 (c:Int):=B.2.1 _ rfl;exact AB (by simp[execOp,xk,xl,t.out,go_sem]) rfl
   case fin=>
    intro gf M Q hF;have xb:=hF 10 _ rfl;simp only[Yay,Ybk,Nat.reduceAdd,Ybf,YaP,Ybe,YbR,Fw,Act.put,YaW,Ybw,YbD,xb];replace Q:=(Ext.refl wr).drew.trans Q;have T:RsRel w M b pre post u v x n k c:=⟨K.out.1,K.out.2.1,K.out.2.2.1.ext Q,K.out.2.2.2.1.ext Q,K.out.2.2.2.2.1,K.out.2.2.2.2.2⟩;have xp:=Q.cellv a;have m:=T.2.2.1.frozen (P+k);have G:=Af (T.step O N.out E.out (by rw[BE];exact d) (by rw[BE];exact f) xc (e:=((z:Int)+y+c)%4294967296) ZcZ);rw[I.out]at G;clear hF xb Q K T a xn s t H;go_wp2;exact⟨⟨k+1,(z+y+c)/BB,_,O,by simp,by rw[BE];congr 1,G.out.2,G.out.1⟩,by simp[intOf];omega⟩
  .obtain rfl:k=n:=by omega
   have R:decide ((k:Int)<k)=false:=by simp
   have C:=K.out.2.2.2.2.1;rw[Yar (by rw[K.out.1];omega),Yar (by rw[S.out];omega),Yar r.out]at C;replace C:=Af C;go_wp2;refine bodyPost_ret (v:=.tuple #[]) (by simp[results,Tryz.results313,go_sem]) rfl ?_;exact⟨x,c,rfl,K.out.1.trans S.out.symm,K.out.2.1,K.out.2.2.1,K.out.2.2.2.1,by rw[S.out];exact C.out,xc⟩
end
