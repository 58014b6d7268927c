/- Part 5. No condition. -/
import Derived.Deep.CutBlock
import Derived.Deep.DeepCutAuto
import Derived.Test.YtcikkglcoeedlaaGreatDm1
set_option linter.all false
set_option maxRecDepth 100000
set_option maxHeartbeats 2000000
namespace Go.Proofs.YtcikkglcoeedlaaGreat
open _root_.Go.Proofs.Tryz
variable{l g:List Nat}{n:Nat}{w p uG:World}
section
open Go.RowKit
theorem Ed{k:Nat}(h:k<l.length):val (l.drop k)=l.getD k 0+BB*val (l.drop (k+1)):=by
 rw[Ycs h];simp[val,h]
theorem LM{k x:Nat}:(l.set k x).drop (k+1)=l.drop (k+1):=by
 rw[List.drop_set];simp
theorem Mp{r x:Nat}(Y:r<4294967296)(C:x<4294967296):bits .or .u64 ((r:Int)*4294967296) (x:Int)=(r:Int)*4294967296+x:=by
 have h:=Sk (q:=x) (x:=r) C Y
 have A:bits .or .u64 ((r:Int)*4294967296) (x:Int)=bits .or .u64 (x:Int) ((r:Int)*4294967296):=by
  show IntKind.u64.wrap ((BitVec.ofInt 64 ((r:Int)*4294967296) ||| BitVec.ofInt 64 (x:Int)).toNat:Int)=IntKind.u64.wrap ((BitVec.ofInt 64 (x:Int) ||| BitVec.ofInt 64 ((r:Int)*4294967296)).toNat:Int);rw[BitVec.or_comm]
 rw[A,h];omega
def DsRel(w wr:World)(Z q:List Nat)(d n k r:Nat):Prop:=
 q.length=n/\BK q/\Blk wr w.heap.size 335 (wv q)/\val (Z.drop k)=val (q.drop k)*d+r/\Ext w wr
theorem DsRel.step{Z q:List Nat}{d n k r x:Nat}(h:DsRel w p Z q d n (k+1) r)(C:k<n)(g:Z.length=n)(E:Z.getD k 0=x)(G:0<d)(Y:r<d)(L:d<4294967296)(z:x<4294967296){u:Int}(J:u=((r*4294967296+x)/d:Nat)) :
  DsRel w (p.setCell ⟨w.heap.size,k,none⟩ (.int .u32 u)) Z (q.set k ((r*4294967296+x)/d)) d n k ((r*4294967296+x)%d):=by
 obtain⟨A,B,K,Q,I⟩:=h
 have F:(r*4294967296+x)/d<BB:=by
  rw[BF];refine Ybu ?_;exact ZiC
 refine⟨by simpa using A,Dq B k F,by rw[J,<-JD];exact K.set k _,?_,I.set (Yai _) _⟩;rw[Ed (l:=Z) (k:=k) ZbC,Ed (l:=q.set k _) (k:=k) (by rw[YbL];omega),LM,Cq ZbC,E,Q,<-BF];have e:=YcT (r*BB+x) d;rw[YbG,YaG,Yba BB];have o:d*((r*BB+x)/d)=(r*BB+x)/d*d:=YaM _ _;have H:BB*r=r*BB:=YaM _ _;omega
theorem A0Y{r x d:Nat}(Y:r<d)(C:x<4294967296)(A:d<4294967296) :
  ((r:Int)*4294967296+x)/d%4294967296=((r*4294967296+x)/d:Nat)/\((r:Int)*4294967296+x)%d=((r*4294967296+x)%d:Nat):=by
 have e:(r:Int)*4294967296+x=((r*4294967296+x:Nat):Int):=by omega
 rw[e,<-Ydr,<-Yds]
 have E:(r*4294967296+x)/d<4294967296:=by
  refine Ybu ?_;exact ZiC
 generalize (r*4294967296+x)/d=q at *;exact⟨by omega,rfl⟩
theorem QS(s:Value)(K:List Nat)(d:Nat)(w:World)(I:Words w s K)(g:K.length<=4398046511104)(h:0<d)(j:d<4294967296) :
  Calls prog 325 #[s,.int .u64 d] w λe N=>∃X,e=.returned (.tuple #[X,.int .u64 (val K%d:Nat)])/\Words N X (Aw (val K/d))/\Ext w N:=by
 obtain⟨A,c,rfl,G,l,E⟩:=I.open_;have R:=Af I.small;clear I;have O:=Af E;clear E;obtain⟨n,U⟩:∃n,n=K.length:=⟨_,rfl⟩;rw[<-U]at G g ⊢;replace U:=Af U;have P:=λW=>CB n (by omega) .i64 .i64 W;go_enter func325,ntmps325;go_wp2;go_loopw [7,8] (λt i wr=>∃(k r:Nat) (q:List Nat),k<=n/\i=.int .i64 ((k:Int)-1)/\t=.int .u64 r/\r<d/\Hid (DsRel w wr K q d n k r)) (λ_ i _=>(intOf i+1).toNat)
 case atStart => exact ⟨n, 0, List.replicate n 0, Yai _, rfl, rfl, h, by simp, Cv _, Blk.new _ _ _, by
  have B:K.drop n=[]:=YaN (by rw[<-U.out];omega);rw[B];simp[val],(Ext.refl _).alloc _⟩
 case round=>
  obtain⟨k,r,q,C,rfl,rfl,Y,J⟩:=hrel;by_cases f:k=0
  .subst f
   have L:Hid (Words wr (.slice (some ⟨w.heap.size,0,none⟩) n n) q):=by
    have:=CJ (c:=n) J.out.2.2.1 J.out.2.1 (by rw[J.out.1];omega) (by omega);rw[J.out.1]at this;exact this
   have Q:Hid (val K/d=val q/\val K%d=r):=by
    have B:=J.out.2.2.2.1;simp only[YaW]at B;rw[B];constructor
    .rw [YaM,YcU h,YbK Y,Ybf]
    .rw [YaM,Ydz,YaV Y]
   go_wp2_with (go_at_call 287;refine(Ek _ _ _ L.out).mono ?_;rintro e N ⟨X,rfl,S,Z⟩);go_ret2;refine⟨X,by rw[Q.out.2];rfl,?_,J.out.2.2.2.2.trans Z⟩;rw[Bn J.out.2.1,<-Q.out.1]at S;exact S
  .obtain ⟨k, rfl⟩:∃q, k=q+1:=⟨k-1, by omega⟩
   obtain⟨b,o,rfl,F,M⟩:=O.out (by rw[<-U.out];omega);replace M:=(J.out.2.2.2.2.cell (p:=⟨b,o+k,none⟩) F).trans (M k (by rw[<-U.out];omega));have z:=Be R.out k;have u:wr.cell? ⟨w.heap.size,k,none⟩=some (.int .u32 (q.getD k 0:Nat)):=by rw[J.out.2.2.1.cell,Ec (by rw[J.out.1];omega)]
   have V:=J.out.2.2.1.frozen k;generalize E:K.getD k 0=x at *;replace E:=Af E;unfold BB at z;have a:((k+1:Nat):Int)-1=k:=by omega
   rw[a];have m:=Mp (r:=r) (x:=x) (by omega) z;have Q:Hid (((r:Int)*4294967296+x)/d%4294967296=((r*4294967296+x)/d:Nat)/\((r:Int)*4294967296+x)%d=((r*4294967296+x)%d:Nat)):=A0Y Y z j;go_wp2;refine⟨⟨k,(r*4294967296+x)%d,_,by omega,rfl,by rw[Q.out.2],YaR _ h,J.out.step C U.out.symm E.out h Y j z Q.out.1⟩,by simp[intOf]⟩
def ShlRel(w wr:World)(Z r:List Nat)(s n k S:Nat):Prop:=
 r.length=n+1/\BK r/\Blk wr w.heap.size 335 (wv r)/\val (r.take k)+BB^k*S=2^s*val (Z.take k)/\Ext w wr
theorem Yi{s:Nat}(a:s<32):2^s<=2147483648:=by
 have:2^s<=2^31:=Ybo ZbC ZbC;exact ZjY
theorem A7S{x s S:Nat}(C:x<4294967296)(a:s<32)(G:S<2^s):bits .or .u64 (IntKind.u64.wrap ((x:Int)*2^s)) (S:Int)=((x*2^s+S:Nat):Int):=by
 have F:=Yi a;have O:x*2^s<=4294967296*2147483648:=YaX ZbC F;have W:(x:Int)*2^s=((x*2^s:Nat):Int):=by simp[Ydy,Int.natCast_pow]
 have o:IntKind.u64.wrap ((x:Int)*2^s)=((x*2^s:Nat):Int):=by rw[W,IntKind.wrap_u64];omega
 have A:(x*2^s) ||| S=x*2^s+S:=by
  have:=YcE G x;rw[YdU]at this;omega
 rw[o,u64_or_nat _ _ ZbC ZbC,A]
theorem ShlRel.step{Z r:List Nat}{s n k S x:Nat}(h:ShlRel w p Z r s n k S)(B:k<n)(C:Z.getD k 0=x)(N:x<4294967296)(a:s<32)(G:S<2^s){u z:Int}(L:u=((x*2^s+S)%BB:Nat))(I:z=((x*2^s+S)/BB:Nat)) :
  ∃(M J:Nat) (b:List Nat),M<=n/\Value.int .i64 ((k:Int)+1)=.int .i64 M/\Value.int .u64 z=.int .u64 J/\J<4294967296/\Hid (J<2^s)/\Hid (ShlRel w (p.setCell ⟨w.heap.size,k,none⟩ (.int .u32 u)) Z b s n M J):=by
 obtain⟨q,A,K,Q,E⟩:=h;have F:=Yi a
 have m:(x*2^s+S)/BB<2^s:=by
  refine Ybu ?_;rw[BF];have:(x+1)*2^s<=4294967296*2^s:=YaC _ N;rw[YbG,YcF]at this;omega
 refine⟨k+1,(x*2^s+S)/BB,r.set k ((x*2^s+S)%BB),B,by simp,by rw[I],by omega,m,by simpa using q,Dq A k (YaR _ CS),by rw[L,<-JD];exact K.set k _,?_,E.set (Yai _) _⟩;rw[Bf,Dw,Cq ZbC,Bf Z,C,YaG];have e:=YcK (x*2^s+S) BB
 have o:BB^k*((x*2^s+S)%BB)+BB^(k+1)*((x*2^s+S)/BB)=BB^k*(x*2^s+S):=by
  rw[Ybt,Yba,<-YaG,e]
 have H:BB^k*(x*2^s+S)=2^s*(BB^k*x)+BB^k*S:=by
  rw[YaG,<-Yba,YaM (BB^k*x)]
 omega
theorem ShlRel.close{Z r:List Nat}{s n S:Nat}(h:ShlRel w p Z r s n n S)(g:Z.length=n)(G:S<4294967296) :
  (r.set n S).length=n+1/\BK (r.set n S)/\Blk (p.setCell ⟨w.heap.size,n,none⟩ (.int .u32 (S:Int))) w.heap.size 335 (wv (r.set n S))/\val (r.set n S)=2^s*val Z/\Ext w (p.setCell ⟨w.heap.size,n,none⟩ (.int .u32 (S:Int))):=by
 obtain⟨q,A,K,Q,k⟩:=h;have c:Z.take n=Z:=Yar ZbC;rw[c]at Q;have d:(r.set n S).take (n+1)=r.set n S:=Yar ZiI;refine⟨by simpa using q,Dq A n (by rw[BF];exact G),by rw[<-JD];exact K.set n _,?_,k.set (Yai _) _⟩;rw[<-d,Bf,Dw,Cq ZbC,Q]
theorem MY(I:Value)(Z:List Nat)(s:Nat)(w:World)(t:Words w I Z)(q:Z.length<=4398046511104)(a:s<32) :
  Calls prog 327 #[I,.int .i64 s] w λe N=>∃(g:Nat) (r:List Nat),e=.returned (.slice (some ⟨g,0,none⟩) (Z.length+1) (Z.length+1))/\r.length=Z.length+1/\BK r/\w.heap.size<=g/\Blk N g 335 (wv r)/\val r=2^s*val Z/\Ext w N:=by
 obtain⟨A,c,rfl,G,j,C⟩:=t.open_;have R:=Af t.small;clear t;have K:=Af C;clear C;obtain⟨n,U⟩:∃n,n=Z.length:=⟨_,rfl⟩;rw[<-U]at G q ⊢;replace U:=Af U;have P:=λW=>CB (n+1) ZbC .i64 .i64 W;simp only[Ycw,Yeh]at P;go_enter func327,ntmps327;go_wp2;go_loopw [6,15] (λV i wr=>∃(k S:Nat) (r:List Nat),k<=n/\i=.int .i64 k/\V=.int .u64 S/\S<4294967296/\Hid (S<2^s)/\Hid (ShlRel w wr Z r s n k S)) (λ_ i _=>n-(intOf i).toNat)
 case atStart=>exact⟨0,0,List.replicate (n+1) 0,Yay _,rfl,rfl,by omega,Ydf s,⟨by simp,Cv _,Blk.new _ _ _,by simp[val],(Ext.refl _).alloc _⟩⟩
 case round=>
  obtain⟨k,S,r,B,rfl,rfl,Y,X,F⟩:=hrel;by_cases O:k<n
  .obtain ⟨b, o, rfl, E, L⟩:=K.out Zew
   replace L:=(F.out.2.2.2.2.cell (p:=⟨b,o+k,none⟩) E).trans (L k Zcl);have z:=Be R.out k;have u:wr.cell? ⟨w.heap.size,k,none⟩=some (.int .u32 (r.getD k 0:Nat)):=by rw[F.out.2.2.1.cell,Ec (by rw[F.out.1];omega)]
   have M:=F.out.2.2.1.frozen k;generalize C:Z.getD k 0=x at *;replace C:=Af C;unfold BB at z;have Q:=A7S z a X.out;replace Q:=Af Q;go_wp2;rw[Q.out];exact⟨F.out.step O C.out z a X.out ZcU ZcU,by simp[intOf];omega⟩
  .obtain rfl:k=n:=by omega
   have u:wr.cell? ⟨w.heap.size,k,none⟩=some (.int .u32 (r.getD k 0:Nat)):=by rw[F.out.2.2.1.cell,Ec (by rw[F.out.1];omega)]
   have M:=F.out.2.2.1.frozen k;have J:=Af (F.out.close U.out.symm Y);go_wp2;go_ret;exact⟨w.heap.size,_,rfl,J.out.1,J.out.2.1,Yai _,J.out.2.2.1,J.out.2.2.2.1,J.out.2.2.2.2⟩
theorem A8Q{t s:Nat}(L:t<18446744073709551616)(a:s<32):bits .and .u64 (t:Int) ((2^s-1:Nat):Int)=((t%2^s:Nat):Int):=by
 have F:=Yi a;rw[u64_and_nat _ _ L ZbC,YdP]
theorem A7R{r x s:Nat}(Y:r<2^s)(C:x<4294967296)(a:s<32) :
  ((r:Int)*4294967296+x)/2^s%4294967296=((r*4294967296+x)/2^s:Nat) /\
  bits .and .u64 ((r:Int)*4294967296+x) (IntKind.u64.wrap (IntKind.u64.wrap (2^s)-1))=((r*4294967296+x)%2^s:Nat):=by
 have F:=Yi a;have q:=Ydf s;have e:((2:Int)^s)=((2^s:Nat):Int):=by simp[Int.natCast_pow]
 constructor
 .rw [e];exact(A0Y Y C ZbC).1
 .have W:IntKind.u64.wrap (IntKind.u64.wrap (2^s)-1)=((2^s-1:Nat):Int):=by
   rw[e];simp only[IntKind.wrap_u64];omega
  have o:(r:Int)*4294967296+x=((r*4294967296+x:Nat):Int):=by omega
  rw[W,o,A8Q ZbC a]
theorem RU(O:Value)(K:List Nat)(s:Nat)(w:World)(I:Words w O K)(g:K.length<=4398046511104)(a:s<32) :
  Calls prog 329 #[O,.int .i64 s] w λe N=>∃X,e=.returned X/\Words N X (Aw (val K/2^s))/\Ext w N:=by
 obtain⟨A,c,rfl,G,p,E⟩:=I.open_;have R:=Af I.small;clear I;have Q:=Af E;clear E;obtain⟨n,U⟩:∃n,n=K.length:=⟨_,rfl⟩;rw[<-U]at G g ⊢;replace U:=Af U;have l:0<2^s:=Ydf s;have m:2^s<4294967296:=by have:=Yi a;omega
 replace l:=Af l;replace m:=Af m;have P:=λW=>CB n ZbC .i64 .i64 W;go_enter func329,ntmps329;go_wp2;go_loopw [6,7] (λt i wr=>∃(k r:Nat) (q:List Nat),k<=n/\i=.int .i64 ((k:Int)-1)/\t=.int .u64 r/\Hid (r<2^s)/\Hid (DsRel w wr K q (2^s) n k r)) (λ_ i _=>(intOf i+1).toNat)
 case atStart => exact ⟨n, 0, List.replicate n 0, Yai _, rfl, rfl, l.out, by simp, Cv _, Blk.new _ _ _, by
  have B:K.drop n=[]:=YaN Zcl;rw[B];simp[val],(Ext.refl _).alloc _⟩
 case round=>
  obtain⟨k,r,q,C,rfl,rfl,Y,J⟩:=hrel;by_cases j:k=0
  .subst j
   have L:Hid (Words wr (.slice (some ⟨w.heap.size,0,none⟩) n n) q):=by
    exact Zjw
   have S:Hid (val K/2^s=val q):=by
    have B:=J.out.2.2.2.1;simp only[YaW]at B;show val K/2^s=val q;rw[B,YaM,YcU l.out,YbK Y.out,Ybf]
   go_wp2_with (go_at_call 287;refine(Ek _ _ _ L.out).mono ?_;rintro e N ⟨X,rfl,V,Z⟩);go_ret;refine⟨X,rfl,?_,J.out.2.2.2.2.trans Z⟩;rw[Bn J.out.2.1,<-S.out]at V;exact V
  .obtain ⟨k, rfl⟩:∃q, k=q+1:=⟨k-1, by omega⟩
   obtain⟨b,o,rfl,F,M⟩:=Q.out Zcl;replace M:=(J.out.2.2.2.2.cell (p:=⟨b,o+k,none⟩) F).trans (M k Zcl);have z:=Be R.out k;have u:wr.cell? ⟨w.heap.size,k,none⟩=some (.int .u32 (q.getD k 0:Nat)):=by rw[J.out.2.2.1.cell,Ec ZdH]
   have d:=J.out.2.2.1.frozen k;generalize E:K.getD k 0=x at *;replace E:=Af E;unfold BB at z;have f:((k+1:Nat):Int)-1=k:=by omega
   rw[f];have h:r<4294967296:=Yer Y.out m.out;have v:=Mp (r:=r) (x:=x) h z;have S:=Af (A7R Y.out z a);go_wp2;refine⟨⟨k,(r*4294967296+x)%2^s,_,by omega,rfl,by rw[S.out.2],YaR _ l.out,J.out.step C U.out.symm E.out l.out Y.out m.out z S.out.1⟩,by simp[intOf]⟩
structure KN(u v p vl ul v1 v2 u0 u1 u2:Nat):Prop where
 hv:v=vl+p*(v2+BB*v1)
 hu:u=ul+p*(u2+BB*(u1+BB*u0))
 vl_lt:vl<p
 ul_lt:ul<p
 v2_lt:v2<BB
 v1_lt:v1<BB
 u0_lt:u0<BB
 u1_lt:u1<BB
 u2_lt:u2<BB
 v1_pos:0<v1
 lt:u<BB*v
section
variable {u v p vl ul v1 v2 u0 u1 u2:Nat}
theorem KN.p_pos(h:KN u v p vl ul v1 v2 u0 u1 u2):0<p:=Ycc (Yay _) h.vl_lt
theorem KN.u0_le(h:KN u v p vl ul v1 v2 u0 u1 u2):u0<=v1:=by
 have F:=h.p_pos
 have q:v+1<=p*(v2+1+BB*v1):=by
  rw[h.hv,show v2+1+BB*v1=(v2+BB*v1)+1 by omega,YaG p (v2+BB*v1) 1];have:=h.vl_lt;omega
 have A:v2+1+BB*v1<=BB*(v1+1):=by
  rw[YaG];have:=h.v2_lt;omega
 have K:v<p*(BB*(v1+1)):=Yaq q (Yas p A);have Q:u<BB*(p*(BB*(v1+1))):=Yer h.lt (Ydn K CS)
 have k:p*(BB*(BB*u0))<=u:=by
  rw[h.hu]
  have:BB*(BB*u0)<=u2+BB*(u1+BB*u0):=by
   exact Zhy
  have:=Yas p this;omega
 have B:BB*(p*(BB*(v1+1)))=p*(BB*(BB*(v1+1))):=by rw[Ybm]
 rw[B]at Q;have g:=Ycc k Q;have x:=Ybw g;have S:=Ybw x;have X:=Ybw S;omega
theorem KN.v_ge(h:KN u v p vl ul v1 v2 u0 u1 u2):p*BB<=v:=by
 rw[h.hv];have:BB*1<=BB*v1:=Yas _ h.v1_pos;have A:p*BB<=p*(v2+BB*v1):=Yas p ZbC;omega
theorem KN.v_pos(h:KN u v p vl ul v1 v2 u0 u1 u2):0<v:=Yaq (Yda h.p_pos CS) h.v_ge
theorem KN.q_lt(h:KN u v p vl ul v1 v2 u0 u1 u2):u/v<BB:=Ybu (by rw[YaM];exact h.lt)
theorem KN.qV(h:KN u v p vl ul v1 v2 u0 u1 u2):u/v*(v2+BB*v1)<=u2+BB*(u1+BB*u0):=by
 have q:u/v*v<=u:=Nat.div_mul_le_self u v
 have A:p*(u/v*(v2+BB*v1))<=u/v*v:=by
  rw[Ybm];refine Yas _ ?_;have:=h.hv;omega
 have K:u<p*(u2+BB*(u1+BB*u0)+1):=by
  have:=h.hu;have:=h.ul_lt;rw[YaG p _ 1];omega
 have Q:p*(u/v*(v2+BB*v1))<p*(u2+BB*(u1+BB*u0)+1):=by omega
 have:=Ybw Q;omega
theorem KN.qv1(h:KN u v p vl ul v1 v2 u0 u1 u2):u/v*v1<=u1+BB*u0:=by
 have q:=h.qV
 have A:BB*(u/v*v1)<=u/v*(v2+BB*v1):=by
  rw[YaG (u/v),Ybm];omega
 have K:BB*(u/v*v1)<BB*(u1+BB*u0+1):=by
  have:=h.u2_lt;rw[YaG BB _ 1];omega
 have:=Ybw K;omega
theorem KN.start(h:KN u v p vl ul v1 v2 u0 u1 u2):u/v<=(u1+BB*u0)/v1:=(Nat.le_div_iff_mul_le h.v1_pos).2 h.qv1
theorem KN.down(h:KN u v p vl ul v1 v2 u0 u1 u2){q r:Nat}(b:q*v1+r=u1+BB*u0)(m:u/v<=q)(L:BB<=q\/r*BB+u2<q*v2):1<=q/\u/v<=q-1/\(q-1)*v1+(r+v1)=u1+BB*u0:=by
 have c:1<=q:=by
  rcases L with L | L
  .have:=CS;omega
  .rcases YaB q with c | c
   .subst c;simp at L
   .exact c
 refine⟨c,?_,?_⟩
 .rcases L with L | L
  .have:=h.q_lt;omega
  .have O:u/v<q:=by
    have A:=h.qV
    have B:u2+BB*(u1+BB*u0)<q*(v2+BB*v1):=by
     rw[<-b,YaG q,Ybm q,YaG BB];have:BB*r=r*BB:=YaM _ _;omega
    exact Yeq (Ycc A B)
   omega
 .have:(q-1)*v1+v1=q*v1:=by
   exact Zhx
  omega
theorem KN.great(h:KN u v p vl ul v1 v2 u0 u1 u2){q r:Nat}(b:q*v1+r=u1+BB*u0)(Y:BB<=r):q<BB/\q*v2<=r*BB+u2:=by
 have c:=h.u0_le;have A:BB*u0<=BB*v1:=Yas _ c;have B:q*v1<BB*v1:=by have:=h.u1_lt;omega
 have m:q<BB:=Yeq B;refine⟨m,?_⟩;have K:q*v2<=BB*BB:=YaX (Yca m) (Yca h.v2_lt);have Q:BB*BB<=r*BB:=YaC _ Y;omega
theorem KN.after(h:KN u v p vl ul v1 v2 u0 u1 u2){q r:Nat}(b:q*v1+r=u1+BB*u0)(m:q<BB)(L:q*v2<=r*BB+u2):q*v<u+v:=by
 have A:q*(v2+BB*v1)<=u2+BB*(u1+BB*u0):=by
  rw[<-b,YaG q,Ybm q,YaG BB];have:BB*r=r*BB:=YaM _ _;omega
 have B:q*v=q*vl+p*(q*(v2+BB*v1)):=by
  rw[h.hv,YaG,Ybm q p]
 have K:p*(q*(v2+BB*v1))<=p*(u2+BB*(u1+BB*u0)):=Yas p A;have Q:p*(u2+BB*(u1+BB*u0))<=u:=by have:=h.hu;omega
 have k:q*vl<p*BB:=by
  rw[YaM p];exact Ycc (YaC _ (Yca m)) (Ydn h.vl_lt CS)
 have C:=h.v_ge;omega
end
theorem A0e(h:l.length=n+2):val l=val (l.take n)+BB^n*(l.getD n 0+BB*l.getD (n+1) 0):=by
 have q:=Bf l (n+1);have A:=Bf l n;rw[Yar ZbC]at q;rw[q,A,Ybt,Yba,YbR,<-YaG]
theorem A0d(h:l.length=n+3):val l=val (l.take n)+BB^n*(l.getD n 0+BB*(l.getD (n+1) 0+BB*l.getD (n+2) 0)):=by
 have q:=Bf l (n+2);have A:=Bf l (n+1);have K:=Bf l n;rw[Yar ZbC]at q;rw[q,A,K];have W:BB^(n+1)=BB^n*BB:=Ybt ..;have o:BB^(n+2)=BB^n*(BB*BB):=by rw[YcL];rfl
 rw[W,o];simp only[YaG,Yba,YbR]
theorem Dj(h:BK l)(k:Nat):BK (l.take k):=λx C=>h x (Ybh C)
theorem RS(h:BK l)(k:Nat):BK (l.drop k):=λx C=>h x (YbZ C)
theorem A9J(Q:l.length=n+3)(r:g.length=n+2)(q:BK l)(f:BK g)(A:0<g.getD (n+1) 0)(O:val l<BB*val g) :
  KN (val l) (val g) (BB^n) (val (g.take n)) (val (l.take n)) (g.getD (n+1) 0) (g.getD n 0) (l.getD (n+2) 0) (l.getD (n+1) 0) (l.getD n 0) where
 hv:=A0e r
 hu:=A0d Q
 vl_lt:=by have:=Ei (Dj f n);rwa [YaO,Yby ZbC]at this
 ul_lt:=by have:=Ei (Dj q n);rwa [YaO,Yby ZbC]at this
 v2_lt:=Be f _
 v1_lt:=Be f _
 u0_lt:=Be q _
 u1_lt:=Be q _
 u2_lt:=Be q _
 v1_pos:=A
 lt:=O
def Win(w:World)(b:Nat)(pre x post:List Nat):Prop:=Blk w b 335 (wv (pre++x++post))
theorem Win.cell{b:Nat}{pre x post:List Nat}(h:Win w b pre x post){k:Nat}(B:k<x.length):w.cell? ⟨b,pre.length+k,none⟩=some (.int .u32 (x.getD k 0:Nat)):=by
 rw[Blk.cell h,Ec ZiI];simp[YaQ,B,show¬pre.length+k<pre.length by omega]
theorem Win.frozen{b:Nat}{pre x post:List Nat}(h:Win w b pre x post)(k:Nat):w.frozen? ⟨b,k,none⟩=false:=Blk.frozen h k
theorem Win.set{b:Nat}{pre x post:List Nat}(h:Win w b pre x post){k:Nat}(B:k<x.length)(y:Nat):Win (w.setCell ⟨b,pre.length+k,none⟩ (.int .u32 (y:Int))) b pre (x.set k y) post:=by
 have:=Blk.set h (pre.length+k) (.int .u32 (y:Int));rw[JD]at this;unfold Win
 have e:(pre++x++post).set (pre.length+k) y=pre++x.set k y++post:=by
  rw[Yaf,Yaf,List.set_append_right _ _ ZbC,Nat.add_sub_cancel_left,List.set_append_left _ _ B]
 rw[e]at this;exact this
structure Only(b:Nat)(w w':World):Prop where
 os:w'.os=w.os
 tape:w'.tape=w.tape
 output:w'.output=w.output
 size:w.heap.size<=w'.heap.size
 block:∀k,k<w.heap.size->k≠b->w'.heap[k]? = w.heap[k]?
theorem Only.refl(b:Nat)(w:World):Only b w w:=⟨rfl,rfl,rfl,Yai _,λ_ _ _=>rfl⟩
theorem Only.trans{b:Nat}(h:Only b w p)(k:Only b p uG):Only b w uG:=
 ⟨k.os.trans h.os,k.tape.trans h.tape,k.output.trans h.output,Yau h.size k.size,λi J A=>(k.block i (Yaq J h.size) A).trans (h.block i J A)⟩
theorem Only.drewN(h:Only n w p)(q:Nat):Only n w (p.drewN q):=⟨h.os,h.tape,h.output,h.size,h.block⟩
theorem Only.set{b:Nat}(h:Only b w p)(o:Nat)(u:Value):Only b w (p.setCell ⟨b,o,none⟩ u):=
 ⟨h.os,h.tape,h.output,by simpa[World.setCell]using h.size,λi J A=>(Below.heap_setCell p ⟨b,o,none⟩ u i A).trans (h.block i J A)⟩
theorem Only.cellv{b:Nat}{k N:World}(h:Only b k N){p:Addr}(F:p.block≠b){v:Value}(r:k.cell? p=some v):N.cell? p=some v:=
 (World.cell?_of_block (w:=k) (h.block p.block (World.block_lt_of_cell? k p r) F)).trans r
theorem Zf(x y c:Nat)(C:x<4294967296)(M:y<=4294967296)(G:c<=1)(N:y+c<=4294967296) :
  IntKind.u64.wrap (IntKind.u64.wrap ((x:Int)-y)-c)%4294967296=((x+BB*(if x<y+c then 1 else 0)-y-c:Nat):Int) /\
  IntKind.u64.wrap (IntKind.u64.wrap ((x:Int)-y)-c)/9223372036854775808=((if x<y+c then 1 else 0:Nat):Int):=by
 simp only[IntKind.wrap_u64,BF];split
 .constructor<;>omega
 .constructor<;>omega
theorem Aak{q y c z d:Nat}(n:z<4294967296)(C:d<=1) :
  IntKind.u64.wrap (IntKind.u64.wrap ((z:Int)-((q:Int)*y+c)%4294967296)-d)%4294967296=((z+BB*(if z<(q*y+c)%BB+d then 1 else 0)-(q*y+c)%BB-d:Nat):Int) /\
  IntKind.u64.wrap (IntKind.u64.wrap ((z:Int)-((q:Int)*y+c)%4294967296)-d)/9223372036854775808=((if z<(q*y+c)%BB+d then 1 else 0:Nat):Int) /\
  ((q:Int)*y+c)/4294967296=(((q*y+c)/BB:Nat):Int):=by
 have e:(q:Int)*y+c=((q*y+c:Nat):Int):=by simp[Ycw,Ydy]
 have v:=YaR (q*y+c) CS;have o:((q:Int)*y+c)%4294967296=(((q*y+c)%BB:Nat):Int):=by rw[e,BF,Yds];rfl
 have H:((q:Int)*y+c)/4294967296=(((q*y+c)/BB:Nat):Int):=by rw[e,BF,Ydr];rfl
 rw[o,H];rw[BF]at v;obtain⟨A,B⟩:=Zf z ((q*y+c)%BB) d n ZcU C ZcU;exact⟨A,B,rfl⟩
def MsRel(w wr:World)(b:Nat)(pre post u v x:List Nat)(n q k cy z:Nat):Prop:=
 x.length=n+1/\BK x/\Win wr b pre x post/\Only b w wr/\val (x.take k)+q*val (v.take k)=val (u.take k)+BB^k*(cy+z)/\∀i,k<=i->x.getD i 0=u.getD i 0
theorem MsRel.step{pre post u v x:List Nat}{A q k cy S y z:Nat}(h:MsRel w p n pre post u v x A q k cy S)(E:k<A)(M:v.getD k 0=y)(I:x.getD k 0=z)(W:z<BB)(F:S<=1){e:Int}
  (b:e=(z+BB*(if z<(q*y+cy)%BB+S then 1 else 0)-(q*y+cy)%BB-S:Nat)) :
  MsRel w (p.setCell ⟨n,pre.length+k,none⟩ (.int .u32 e)) n pre post u v (x.set k (z+BB*(if z<(q*y+cy)%BB+S then 1 else 0)-(q*y+cy)%BB-S)) A q (k+1) ((q*y+cy)/BB) (if z<(q*y+cy)%BB+S then 1 else 0):=by
 obtain⟨B,C,K,Q,G,N⟩:=h;have L:=YaR (q*y+cy) CS;have Y:z+BB*(if z<(q*y+cy)%BB+S then 1 else 0)-(q*y+cy)%BB-S<BB:=by split<;>omega
 have m:z+BB*(if z<(q*y+cy)%BB+S then 1 else 0)-(q*y+cy)%BB-S+((q*y+cy)%BB+S)=z+BB*(if z<(q*y+cy)%BB+S then 1 else 0):=by split<;>omega
 generalize (if z<(q*y+cy)%BB+S then 1 else 0:Nat)=O at *;generalize f:z+BB*O-(q*y+cy)%BB-S=X at *;refine⟨by simpa using B,Dq C k Y,by rw[b];exact K.set ZbC X,Q.set _ _,?_,λi J=>?_⟩
 .rw [Bf, Dw, Cq ZbC, Bf u, Bf v, M, <-N k (Yai _), I]
  have o:=YcK (q*y+cy) BB
  have H:BB^(k+1)*((q*y+cy)/BB+O)+BB^k*z=BB^k*X+q*(BB^k*y)+BB^k*(cy+S):=by
   have V:BB*((q*y+cy)/BB+O)+z=X+q*y+(cy+S):=Zhy
   rw[Ybt,Yba,<-YaG,V,YaG,YaG,Ybm q]
  rw[YaG q];omega
 .rw [<-N i ZbC]
  exact ZaA
theorem Ej(h:l.length=n+1):val l=val (l.take n)+BB^n*l.getD n 0:=by
 have:=Bf l n;rwa [Yar ZbC]at this
theorem MsRel.close1{b:Nat}{pre post u v x:List Nat}{n q cy M z:Nat}(h:MsRel w p b pre post u v x n q n cy M)(G:u.length=n+1)(r:v.length=n)(E:x.getD n 0=z)(O:z<BB)(J:cy+M<=z)(L:val u/val v<=q)(S:0<val v){e:Int}(C:e=(z-cy-M:Nat)) :
  ∃N,N.length=n+1/\BK N/\Win (p.setCell ⟨b,pre.length+n,none⟩ (.int .u32 e)) b pre N post/\Only b w (p.setCell ⟨b,pre.length+n,none⟩ (.int .u32 e))/\val N+q*val v=val u/\val N<val v:=by
 obtain⟨A,B,K,Q,k,F⟩:=h;have i:v.take n=v:=Yar ZbC;rw[i]at k
 have Iw:val (x.set n (z-cy-M))+q*val v=val u:=by
  rw[Ej (n:=n) ZdE,Dw,Cq ZbC,Ej G,<-F n (Yai _),E];have:BB^n*z=BB^n*(z-cy-M)+BB^n*(cy+M):=by rw[<-YaG];exact Zhl
  omega
 refine⟨x.set n (z-cy-M),by simpa using A,Dq B n ZbC,by rw[C];exact K.set ZbC _,Q.set _ _,Iw,?_⟩
 have g:val u<(val u/val v+1)*val v:=by
  rw[YaM];exact Yel (val u) S
 have I:(val u/val v+1)*val v<=(q+1)*val v:=YaC _ ZbC;rw[YbG q,YcF]at I;omega
theorem MsRel.close2{b:Nat}{pre post u v x:List Nat}{n q cy I z:Nat}(h:MsRel w p b pre post u v x n q n cy I)(G:u.length=n+1)(r:v.length=n)(E:x.getD n 0=z)(O:z<cy+I)(J:cy+I<=BB){e:Int}(C:e=(z+BB-cy-I:Nat)) :
  (x.set n (z+BB-cy-I)).length=n+1/\BK (x.set n (z+BB-cy-I))/\Win (p.setCell ⟨b,pre.length+n,none⟩ (.int .u32 e)) b pre (x.set n (z+BB-cy-I)) post/\Only b w (p.setCell ⟨b,pre.length+n,none⟩ (.int .u32 e))/\val (x.set n (z+BB-cy-I))+q*val v=val u+BB^(n+1):=by
 obtain⟨A,B,K,Q,k,F⟩:=h;have i:v.take n=v:=Yar ZbC;rw[i]at k;refine⟨by simpa using A,Dq B n ZbC,by rw[C];exact K.set ZbC _,Q.set _ _,?_⟩;rw[Ej (n:=n) ZdE,Dw,Cq ZbC,Ej G,<-F n (Yai _),E];have:BB^n*z+BB^n*BB=BB^n*(z+BB-cy-I)+BB^n*(cy+I):=by rw[<-YaG,<-YaG];exact Zhl
 rw[Ybt];omega
def AbRel(w wr:World)(b:Nat)(pre post u v x:List Nat)(n k S:Nat):Prop:=
 x.length=n+1/\BK x/\Win wr b pre x post/\Only b w wr/\val (x.take k)+BB^k*S=val (u.take k)+val (v.take k)/\∀i,k<=i->x.getD i 0=u.getD i 0
theorem AbRel.drewN{pre post u v x:List Nat}{A k S:Nat}(h:AbRel w p n pre post u v x A k S)(q:Nat):AbRel w (p.drewN q) n pre post u v x A k S:=
 ⟨h.1,h.2.1,h.2.2.1,h.2.2.2.1.drewN q,h.2.2.2.2.1,h.2.2.2.2.2⟩
theorem AbRel.step{pre post u v x:List Nat}{q k S y z:Nat}(h:AbRel w p n pre post u v x q k S)(C:k<q)(M:v.getD k 0=y)(F:x.getD k 0=z)(L:y<BB)(N:z<BB)(G:S<=1){e:Int}(b:e=((z+y+S)%BB:Nat)) :
  AbRel w (p.setCell ⟨n,pre.length+k,none⟩ (.int .u32 e)) n pre post u v (x.set k ((z+y+S)%BB)) q (k+1) ((z+y+S)/BB)/\(z+y+S)/BB<=1:=ZaB
theorem AbRel.close{b:Nat}{pre post L v x u:List Nat}{n S z q:Nat}(h:AbRel w p b pre post L v x n n S)(V:L.length=n+1)(s0:BK L)(r:v.length=n)(F:x.getD n 0=z)(M:z<BB)(G:S<=1)
  (c:val L+q*val v=val u+BB^(n+1)) (m:q*val v<val u+val v) {e:Int} (C:e=((z+S)%BB:Nat)) :
  ∃N,N.length=n+1/\BK N/\Win (p.setCell ⟨b,pre.length+n,none⟩ (.int .u32 e)) b pre N post/\Only b w (p.setCell ⟨b,pre.length+n,none⟩ (.int .u32 e))/\1<=q/\val N+(q-1)*val v=val u/\val N<val v:=by
 obtain⟨A,B,K,Q,E,I⟩:=h;have i:v.take n=v:=Yar ZbC;rw[i]at E;have X:=Ei s0;rw[V]at X
 have t:1<=q:=by
  rcases YaB q with h | h
  .subst h;rw[YcH]at c;omega
  .exact h
 have O:(q-1)*val v+val v=q*val v:=by
  exact Zhx
 have T:L.getD n 0=z:=by rw[<-I n (Yai _),F]
 have J:=Ej V;rw[T]at J
 have Y:val (x.take n)<BB^n:=by
  have:=Ei (Dj B n);exact ZjZ
 have H:BB^(n+1)=BB^n*BB:=Ybt ..
 have W:val (x.take n)+BB^n*(z+S)=BB^(n+1)+(val u+val v-q*val v):=by
  exact Zhy
 have a:z+S=BB:=by
  rcases YaI (z+S) BB with h | h
  .exfalso
   have g:BB^n*(z+S+1)<=BB^n*BB:=Yas _ h;rw[YaG,<-H,Ybz]at g;omega
  .omega
 rw[a,<-H]at W
 have Iw:val (x.set n ((z+S)%BB))=val u+val v-q*val v:=by
  rw[Ej (n:=n) ZdE,Dw,Cq ZbC,a,Nat.mod_self,Ycz,Ybf];omega
 refine⟨x.set n ((z+S)%BB),by simpa using A,Dq B n (YaR _ CS),by rw[C];exact K.set ZbC _,Q.set _ _,t,?_,?_⟩
 .rw [Iw];omega
 .rw [Iw];omega
theorem A2n{k:IntKind}{a b:Int}(h:a=b):Ending.returned (.int k a)=.returned (.int k b):=by rw[h]
def A73(w:World)(b:Nat)(pre post u v:List Nat)(e:Ending)(N:World):Prop:=
 ∃(q:Nat) (x:List Nat),e=.returned (.int .u32 q)/\q<BB/\x.length=u.length/\BK x/\Win N b pre x post/\Only b w N/\val x+q*val v=val u/\val x<val v
def Ab9(w:World)(b a Z A:Nat)(pre post u v:List Nat)(q r:Value)(s:World):Prop:=
 ∃t p:Nat,q=.int .u64 t/\r=.int .u64 p/\p<4294967296/\t<=8589934592/\Hid (t*a+p=A+BB*Z/\val u/val v<=t)/\Hid (Win s b pre u post/\Only b w s)
set_option maxRecDepth 1000000 in
theorem Pf(b bv ov n cu cv:Nat)(pre post u v:List Nat)(w:World)(h:Win w b pre u post)(Z:u.length=n+1)(N:v.length=n)(xq:2<=n)(g:n<=4398046511104)(su:BK u)(sv:BK v)(xD:bv≠b)
  (xr:∀i,i<n->w.cell? ⟨bv,ov+i,none⟩=some (.int .u32 (v.getD i 0:Nat))) (xB:n+1<=cu) (xx:n<=cv) (xv:2147483648<=v.getD (n-1) 0) (O:val u<BB*val v) :
  Calls prog 328 #[.slice (some ⟨b,pre.length,none⟩) (n+1) cu,.slice (some ⟨bv,ov,none⟩) n cv] w (A73 w b pre post u v):=by
 obtain⟨m,rfl⟩:∃m,n=m+2:=⟨n-2,by omega⟩;have l:=Af (A9J Z N su sv Zei O);have xp:=h.cell (k:=m+2) ZbC;have xi:=h.cell (k:=m+1) ZbC;have xa:=h.cell (k:=m) ZbC;have xk:=xr (m+1) ZbC;have xl:=xr m ZbC;have xo:=Be su (m+2);have xz:=Be su (m+1);have xI:=Be su m;have xf:=Be sv (m+1);have xu:=Be sv m;have xR:2147483648<=v.getD (m+1) 0:=xv;generalize xJ:u.getD (m+2) 0=U0 at *;generalize xK:u.getD (m+1) 0=U1 at *;generalize xG:u.getD m 0=U2 at *;generalize xL:v.getD (m+1) 0=V1 at *;generalize xM:v.getD m 0=V2 at *;replace xJ:=Af xJ;replace xK:=Af xK;replace xG:=Af xG;replace xL:=Af xL;replace xM:=Af xM;unfold BB at xo xz xI xf xu;replace h:=Af h;replace Z:=Af Z;replace N:=Af N;replace su:=Af su;replace sv:=Af sv;replace xr:=Af xr;replace O:=Af O;clear xv;generalize X:pre.length=P at *;replace X:=Af X;have xQ:=Mp (r:=U0) (x:=U1) xo xz;have S:m<=4398046511102:=by omega
 clear g xq;go_enter func328,ntmps328;go_wp2;go_quiet (fail);go_wp2;go_quiet (fail)
 have a:Hid (((U0:Int)*4294967296+U1)/V1=((U1+BB*U0)/V1:Nat)/\((U0:Int)*4294967296+U1)%V1=((U1+BB*U0)%V1:Nat)):=by
  have e:(U0:Int)*4294967296+U1=((U1+BB*U0:Nat):Int):=by rw[BF];omega
  exact Zip
 go_upto_block 0 with(fail)
 rw[a.out.1,a.out.2];go_cut [7,8] (λq r wx=>∃qn:Nat,q=.int .u64 qn/\qn<4294967296/\Hid (val u/val v<=qn/\qn*val v<val u+val v)/\Hid (Win wx b pre u post/\Only b w wx))
 case first=>
  go_wp2;go_loopw [7,8] (λq r wx=>Ab9 w b V1 U0 U1 pre post u v q r wx) (λq _ _=>(intOf q).toNat)
  case atStart=>
   have xj:0<V1:=by omega
   refine⟨_,_,rfl,rfl,?_,?_,⟨?_,?_⟩,?_⟩
   .have:=YaR (U1+BB*U0) xj;omega
   .refine Yca (Ybu ?_)
    have:2147483648*8589934592<=V1*8589934592:=YaC _ xR;rw[BF];omega
   .rw [YaM];exact YcT _ _
   .exact l.out.start
   .exact ⟨h.out,((Only.refl _ _).drewN _).drewN _⟩
  case round=>
   obtain⟨q,r,rfl,rfl,Y,I,W,j⟩:=hrel
   have g2:wr.cell? ⟨b,P+m,none⟩=some (.int .u32 (U2:Nat)):=by
    have:=j.out.1.cell (k:=m) (by rw[Z.out];omega);rw[X.out,xG.out]at this;exact this
   have U:wr.cell? ⟨bv,ov+(m+1),none⟩=some (.int .u32 (V1:Nat)):=j.out.2.cellv xD xk;have g3:wr.cell? ⟨bv,ov+m,none⟩=some (.int .u32 (V2:Nat)):=j.out.2.cellv xD xl;have xS:=Mp (r:=r) (x:=U2) Y xI;clear xp xi xa xk xl xQ;have xN:=Af (λL=>l.out.down W.out.1 W.out.2 (q:=q) (r:=r) L);have xh:Hid (∀q' f,q'*V1+f=U1+BB*U0->val u/val v<=q'->q'<BB->q'*V2<=f*BB+U2->val u/val v<=q'/\q'*val v<val u+val v):=λq' f A B K Q=>⟨B,l.out.after A K Q⟩;have xO:Hid (∀q' f,q'*V1+f=U1+BB*U0->BB<=f->q'<BB/\q'*V2<=f*BB+U2):=λq' f A B=>l.out.great A B;by_cases xm:4294967296<=q
   .have xy:decide ((4294967296:Int)<=q)=true:=ZiI
    replace xm:=Af xm;replace I:=Af I;have E:=Af (xN.out (.inl (by rw[BF];exact xm.out)));by_cases xe:4294967296<=r+V1
    .have xF:(4294967296:Int)<=(r:Int)+V1:=by omega
     replace xe:=Af xe;go_wp2;go_quiet (fail);have xd:(1:Int)<=q:=by have:=xm.out;omega
     have xt:(q:Int)<=8589934592:=by have:=I.out;omega
     clear xy;go_wp2;go_meet
     case rel=>
      exact Zgu
    .have xF:decide ((4294967296:Int)<=(r:Int)+V1)=false:=ZiI
     replace xe:=Af xe;go_wp2;go_quiet (fail);have xd:(1:Int)<=q:=by have:=xm.out;omega
     have xt:(q:Int)<=8589934592:=by have:=I.out;omega
     clear xy;exact ZgB
   .have xy:decide ((4294967296:Int)<=q)=false:=ZiI
    have xE:q<4294967296:=by omega
    replace xm:=Af xm;replace I:=Af I;have F:(q:Int)*V2<=18446744065119617025:=by have:=FU xE xu;omega
    have xn:(0:Int)<=(q:Int)*V2:=Yct ZbC ZbC;by_cases xw:r*4294967296+U2<q*V2
    .have xC:decide ((r:Int)*4294967296+U2<(q:Int)*V2)=true:=ZiI
     have E:=Af (xN.out (.inr (by rw[BF];exact xw)));replace xw:=Af xw;have xd:(1:Int)<=q:=by have:=E.out.1;omega
     by_cases xe:4294967296<=r+V1
     .have xF:decide ((4294967296:Int)<=(r:Int)+V1)=true:=ZiI
      replace xe:=Af xe;go_wp2;go_quiet (fail);clear F xn xC xy xS;go_wp2;go_meet
      case rel=>
       exact Zgu
     .have xF:decide ((4294967296:Int)<=(r:Int)+V1)=false:=ZiI
      replace xe:=Af xe;go_wp2;go_quiet (fail);clear F xn xC xy xS;exact ZgB
    .have xC:decide ((r:Int)*4294967296+U2<(q:Int)*V2)=false:=ZiI
     replace xw:=Af xw;go_wp2;go_quiet (fail);go_wp2;go_meet
     case rel=>exact⟨q,rfl,xE,xh.out _ _ W.out.1 W.out.2 (by rw[BF];exact xE) (by have:=xw.out;rw[BF];omega),j.out.1,j.out.2.drewN _⟩
 case rest=>
  obtain⟨q,rfl,I,W,j⟩:=hcut;clear xp xi xa xk xl xQ;go_wp2;obtain⟨wo,rfl⟩:∃wo:World,wo=wc:=⟨_,rfl⟩;go_loopw [9,10,83] (λcy t i wr=>∃(k c d:Nat) (x:List Nat),k<=m+2/\i=.int .i64 k/\cy=.int .u64 c/\t=.int .u64 d/\c<4294967296/\d<=1/\Hid (MsRel w wr b pre post u v x (m+2) q k c d)) (λ_ _ i _=>m+2-(intOf i).toNat)
  case atStart=>exact⟨0,0,0,u,Yay _,rfl,rfl,rfl,by omega,by omega,Z.out,su.out,j.out.1,j.out.2,by simp[val],λ_ _=>rfl⟩
  case round=>
   obtain⟨k,c,d,x,C,rfl,rfl,rfl,xA,xs,p⟩:=hrel;by_cases O:k<m+2
   .have U:wr.cell? ⟨bv,ov+k,none⟩=some (.int .u32 (v.getD k 0:Nat)):=p.out.2.2.2.1.cellv xD (xr.out k O)
    have g2:wr.cell? ⟨b,P+k,none⟩=some (.int .u32 (x.getD k 0:Nat)):=by
     have:=p.out.2.2.1.cell (k:=k) Zee;exact ZiM
    have g3:=p.out.2.2.1.frozen (P+k);have xc:=Be sv.out k;have xg:=Be p.out.2.1 k;generalize M:v.getD k 0=y at *;generalize J:x.getD k 0=z at *;replace M:=Af M;replace J:=Af J;unfold BB at xc xg;have F:(q:Int)*y<=18446744065119617025:=by have:=FU I xc;omega
    have xn:(0:Int)<=(q:Int)*y:=Yct ZbC ZbC;have xb:=Af (Aak (q:=q) (y:=y) (c:=c) (z:=z) (d:=d) xg xs)
    have xH:Hid ((q*y+c)/BB<4294967296):=by
     have:=FU I xc;show _/BB<4294967296;rw[BF];omega
    go_wp2;rw[xb.out.1,xb.out.2.1,xb.out.2.2];have:=p.out.step O M.out J.out ZeO xs (cy:=c) rfl;rw[X.out]at this;exact⟨⟨k+1,_,_,_,O,by simp,rfl,rfl,xH.out,by split<;>omega,this⟩,by simp[intOf];omega⟩
   .obtain rfl:k=m+2:=by omega
    have g2:wr.cell? ⟨b,P+(m+2),none⟩=some (.int .u32 (x.getD (m+2) 0:Nat)):=by
     have:=p.out.2.2.1.cell (k:=m+2) Zee;exact ZiM
    have g3:=p.out.2.2.1.frozen (P+(m+2));have xg:=Be p.out.2.1 (m+2);generalize J:x.getD (m+2) 0=z at *;replace J:=Af J;unfold BB at xg;have xb:=Af (Zf z c d xg ZbC xs ZbC);by_cases o:c+d<=z
    .go_wp2
     go_ret;obtain⟨R,A,B,K,Q,G,V⟩:=p.out.close1 Z.out N.out J.out ZeO o W.out.1 l.out.v_pos (e:=(z:Int)-c-d) ZbC;rw[X.out]at K Q;exact⟨q,R,rfl,by rw[BF];exact I,A.trans Z.out.symm,B,K,Q,G,V⟩
    .have xT:(IntKind.u64.wrap (IntKind.u64.wrap ((z:Int)-c)-d)/9223372036854775808==0)=false:=by
      rw[xb.out.2,Yao ZbC];rfl
     have H:=p.out.close2 Z.out N.out J.out ZbC ZcU (e:=IntKind.u64.wrap (IntKind.u64.wrap ((z:Int)-c)-d)%4294967296) (by rw[xb.out.1,Yao ZbC,Ybz]);rw[X.out]at H;generalize x.set (m+2) (z+BB-c-d)=s at H;replace H:=Af H;replace o:=Af o;go_wp2;obtain⟨wp,xP⟩:∃wp:World,wp=wr.setCell ⟨b,P+(m+2),none⟩ (.int .u32 (IntKind.u64.wrap (IntKind.u64.wrap ((z:Int)-c)-d)%4294967296)):=⟨_,rfl⟩;rw[<-xP]at H;rw[<-xP];clear xP xT xb g2 g3 p;go_loopw [9,136] (λcy i wr=>∃(k c:Nat) (x:List Nat),k<=m+2/\i=.int .i64 k/\cy=.int .u64 c/\c<=1/\Hid (AbRel w wr b pre post s v x (m+2) k c)) (λ_ i _=>m+2-(intOf i).toNat)
     case atStart=>exact⟨0,0,s,Yay _,rfl,rfl,by omega,H.out.1,H.out.2.1,H.out.2.2.1,H.out.2.2.2.1,by simp[val],λ_ _=>rfl⟩
     case round=>
      obtain⟨k,c,x,C,rfl,rfl,xi,p⟩:=hrel;by_cases O:k<m+2
      .have U:wr.cell? ⟨bv,ov+k,none⟩=some (.int .u32 (v.getD k 0:Nat)):=p.out.2.2.2.1.cellv xD (xr.out k O)
       have g2:wr.cell? ⟨b,P+k,none⟩=some (.int .u32 (x.getD k 0:Nat)):=by
        have:=p.out.2.2.1.cell (k:=k) Zee;exact ZiM
       have g3:=p.out.2.2.1.frozen (P+k);have xc:=Be sv.out k;have xg:=Be p.out.2.1 k;generalize M:v.getD k 0=y at *;generalize J:x.getD k 0=z at *;replace M:=Af M;replace J:=Af J;unfold BB at xc xg;go_wp2;go_quiet (fail);go_wp2;have A:=(p.out.drewN nq).step O M.out J.out (by rw[BF];exact xc) ZeO xi (e:=((z:Int)+y+c)%4294967296) ZcU;rw[X.out]at A;exact⟨⟨k+1,(z+y+c)/BB,_,O,by simp,by rw[BF];congr 1,A.2,A.1⟩,by simp[intOf];omega⟩
      .obtain rfl:k=m+2:=by omega
       have g2:wr.cell? ⟨b,P+(m+2),none⟩=some (.int .u32 (x.getD (m+2) 0:Nat)):=by
        have:=p.out.2.2.1.cell (k:=m+2) Zee;exact ZiM
       have g3:=p.out.2.2.1.frozen (P+(m+2));have xg:=Be p.out.2.1 (m+2);generalize J:x.getD (m+2) 0=z at *;replace J:=Af J;unfold BB at xg;obtain⟨R,A,B,K,Q,xd,G,V⟩:=p.out.close H.out.1 H.out.2.1 N.out J.out ZeO xi H.out.2.2.2.2 W.out.2 (e:=((z:Int)+c)%4294967296) ZcU;rw[X.out]at K Q;have T:=Af (And.intro A (And.intro B (And.intro K (And.intro Q (And.intro G V)))));clear A B K Q G V;go_wp2;go_ret;exact⟨q-1,R,A2n ZbC,by rw[BF];omega,T.out.1.trans Z.out.symm,T.out.2.1,T.out.2.2.1,T.out.2.2.2.1,T.out.2.2.2.2.1,T.out.2.2.2.2.2⟩
theorem A3d(x y S:Nat)(C:x<4294967296)(M:y<4294967296)(G:S<=1) :
  IntKind.u64.wrap (4294967296+(x:Int))=4294967296+(x:Int)/\IntKind.u64.wrap (4294967296+(x:Int)-y)=4294967296+(x:Int)-y/\IntKind.u64.wrap (4294967296+(x:Int)-y-S)=4294967296+(x:Int)-y-S /\
  (4294967296+(x:Int)-y-S)%4294967296=((x+BB*(if x<S+y then 1 else 0)-S-y:Nat):Int)/\(4294967296+(x:Int)-y-S)%4294967296%4294967296=((x+BB*(if x<S+y then 1 else 0)-S-y:Nat):Int) /\
  1-(4294967296+(x:Int)-y-S)/4294967296=((if x<S+y then 1 else 0:Nat):Int):=by
 simp only[IntKind.wrap_u64,BF];refine⟨by omega,by omega,by omega,?_,?_,?_⟩<;>(split<;>omega)
theorem A3a(x y z S:Nat)(C:x<4294967296)(M:y<4294967296)(n:z<4294967296)(G:S<4294967296) :
  IntKind.u64.wrap ((x:Int)*y)=(x:Int)*y/\IntKind.u64.wrap ((x:Int)*y+z)=(x:Int)*y+z/\IntKind.u64.wrap ((x:Int)*y+z+S)=(x:Int)*y+z+S/\0<=(x:Int)*y/\0<=(x:Int)*y+z+S/\(x:Int)*y+z+S<=18446744073709551615:=by
 have F:(x:Int)*y<=18446744065119617025:=by have:=FU C M;omega
 have h:(0:Int)<=(x:Int)*y:=Yct ZbC ZbC;generalize (x:Int)*y=p at *;simp only[IntKind.wrap_u64];omega
theorem A1e(R vb:Value)(j s:List Nat)(w:World)(V:Words w R j)(E:Words w vb s)(S:val s<=val j)(I:s.length<=j.length)(g:j.length<=4398046511104) :
  Calls prog 277 #[R,vb] w λe N=>∃h,e=.returned h/\Words N h (Aw (val j-val s))/\Ext w N:=by
 obtain⟨A,c,rfl,G,X,C⟩:=V.open_;obtain⟨B,d,rfl,K,xo,M⟩:=E.open_;have Ha:=Af V;have Hb:=Af E;have xg:=Af V.small;have xm:=Af E.small;clear V E;have hA:=Af C;have hB:=Af M;clear C M;replace S:=Af S;obtain⟨n,U⟩:∃n,n=j.length:=⟨_,rfl⟩;obtain⟨m,T⟩:∃m,m=s.length:=⟨_,rfl⟩;rw[<-U]at G I g ⊢;rw[<-T]at K I ⊢;replace U:=Af U;replace T:=Af T;have xk:=λW=>CB n ZbC .i64 .i64 W;go_enter func277,ntmps277;go_wp2;go_loopw [6,7] (λcy i wr=>∃(k a:Nat) (r:List Nat),k<=n/\i=.int .i64 k/\cy=.int .u64 a/\a<=1/\Hid (DifRel w wr j s r n k a)) (λ_ i _=>n-(intOf i).toNat)
 case atStart=>exact⟨0,0,List.replicate n 0,Yay _,rfl,rfl,by omega,⟨by simp,Cv _,Blk.new _ _ _,by simp[val],(Ext.refl _).alloc _⟩⟩
 case round=>
  obtain⟨k,a,r,q,rfl,rfl,xi,Y⟩:=hrel;by_cases O:k<n
  .have xp:decide ((k:Int)<n)=true:=by simpa using O
   obtain⟨b,o,rfl,E,H⟩:=hA.out Zcl;replace H:=(Y.out.2.2.2.2.cell (p:=⟨b,o+k,none⟩) E).trans (H k Zcl);have xc:=Be xg.out k;have xf:=Be xm.out k;generalize C:j.getD k 0=x at *;generalize M:s.getD k 0=y at *;replace C:=Af C;replace M:=Af M;unfold BB at xc xf;have Hw:Hid (Words wr (.slice B m d) s):=by rw[T.out];exact Hb.out.ext Y.out.2.2.2.2
   have xe:=Af (A3d x y a xc xf xi);have J:¬n<=k:=by omega
   have xn:Hid (IntKind.u64.wrap (x:Int)=x):=Af (IntWalk.u64_in _ ZbC);have xj:(4294967296:Int)+x-y-a<=8589934591:=by omega
   have xh:0<=(4294967296:Int)+x-y-a:=by omega
   go_upto_region 6 with(fail)
   refine wp_region_v ZbG [[], [], [(18, 0), (19, 1)], [(20, 2)], [(21, 3)], [(22, 4)], [], [], [(24, 6), (25, 7)], [(23, 5), (26, 8)], [], [(27, 9), (28, 10)]] [[], [], [0, 1], [0, 1, 2], [0, 1, 2, 3], [0, 1, 2, 3, 4], [], [], [6, 7], [0, 1, 2, 3, 4, 5, 6, 7, 8], [], [0, 1, 2, 3, 4, 5, 6, 7, 8, 9, 10]]
    [λv _=>v=.slice (some ⟨b,o,none⟩) n c,λv _=>v=.int .i64 (k:Int),λv _=>v=.pointer (some ⟨b,o+k,none⟩),λv _=>v=.int .u32 (x:Int),λv _=>v=.int .u64 (x:Int),λv _=>v=.int .u64 (4294967296+(x:Int)),λv _=>v=.slice B m d,λv _=>v=.int .i64 (k:Int),λv _=>v=.int .u64 (y:Int),λv _=>v=.int .u64 (4294967296+(x:Int)-y),λv _=>v=.int .u64 (a:Int),λv _=>v=.int .u64 (4294967296+(x:Int)-y-a)]
    rfl ZbG ZbG ?stab ?steps ?fin
   case stab=>exact .cons (Stab.eq _) (.cons (Stab.eq _) (.cons (Stab.eq _) (.cons (Stab.eq _) (.cons (Stab.eq _) (.cons (Stab.eq _) (.cons (Stab.eq _) (.cons (Stab.eq _) (.cons (Stab.eq _) (.cons (Stab.eq _) (.cons (Stab.eq _) (.cons (Stab.eq _) .nil)))))))))))
   case steps=>
    refine .cons ?s0 (.cons ?s1 (.cons ?s2 (.cons ?s3 (.cons ?s4 (.cons ?s5 (.cons ?s6 (.cons ?s7 (.cons ?s8 (.cons ?s9 (.cons ?s10 (.cons ?s11 .nil)))))))))))
    case s0=>
     intro N Q Z q V G p;have P:Q (.tmp 0)=.slice (some ⟨b,o,none⟩) n c:=V 0 ZbH;exact AD (by simp[execOp,P,go_sem]) rfl
    case s1=>
     intro N Q Z q V G p;exact ZiS
    case s2=>
     intro N Q Z q V G p;have xt:Q (.tmp 18)=.slice (some ⟨b,o,none⟩) n c:=q.1 _ rfl;have xu:Q (.tmp 19)=.int .i64 (k:Int):=q.2.1 _ rfl;exact AD (by simp[execOp,xt,xu,J,go_sem]) rfl
    case s3=>
     intro N Q Z q V G p;have xr:Q (.tmp 20)=.pointer (some ⟨b,o+k,none⟩):=q.1 _ rfl;have f:N.cell? ⟨b,o+k,none⟩=some (.int .u32 (x:Int)):=Z.cellv H;exact AD (by simp[execOp,xr,f,go_sem]) rfl
    case s4=>
     intro N Q Z q V G p;have xv:Q (.tmp 21)=.int .u32 (x:Int):=q.1 _ rfl;exact AD (by simp[execOp,xv,xn.out,go_sem]) rfl
    case s5=>
     intro N Q Z q V G p;have xw:Q (.tmp 22)=.int .u64 (x:Int):=q.1 _ rfl;exact AD (by simp[execOp,xw,G,xe.out.1,go_sem]) rfl
    case s6=>
     intro N Q Z q V G p;have F:Q (.tmp 1)=.slice B m d:=V 1 ZbH;exact AD (by simp[execOp,F,go_sem]) rfl
    case s7=>
     intro N Q Z q V G p;exact ZiS
    case s8=>
     intro N Q Z q V G p;have xz:Q (.tmp 24)=.slice B m d:=q.1 _ rfl;have xA:Q (.tmp 25)=.int .i64 (k:Int):=q.2.1 _ rfl;refine CF (by simp[execOp,resolve,invoke,p,xz,xA,go_sem]) (Iy _ s k y _ (Hw.out.ext ((Ext.refl _).drew.trans Z)) M.out) ?_;rintro e l ⟨rfl,rfl⟩;exact⟨_,rfl,Ext.refl _,rfl⟩
    case s9=>
     intro N Q Z q V G p;have xy:Q (.tmp 23)=.int .u64 (4294967296+(x:Int)):=q.1 _ rfl;have xB:Q (.tmp 26)=.int .u64 (y:Int):=q.2.1 _ rfl;exact AD (by simp[execOp,xy,xB,xe.out.2.1,go_sem]) rfl
    case s10=>
     intro N Q Z q V G p;have e6:Q (.tmp 6)=.int .u64 (a:Int):=V 6 ZbH;exact AD ZeU rfl
    case s11=>
     intro N Q Z q V G p;have xC:Q (.tmp 27)=.int .u64 (4294967296+(x:Int)-y):=q.1 _ rfl;have xx:Q (.tmp 28)=.int .u64 (a:Int):=q.2.1 _ rfl;exact AD (by simp[execOp,xC,xx,xe.out.2.2.1,go_sem]) rfl
   case fin=>
    intro gf N Z hF;have xq:=hF 11 _ rfl;simp only[Yat,Ybg,Nat.reduceAdd,Ybn,YaW,Ybl,Ycf,FH,Act.put,Ybe,YbB,YbS,xq];replace Z:=Af ((Ext.refl _).drew.trans Z);have xs:Hid (DifRel w N j s r n k a):=⟨Y.out.1,Y.out.2.1,Y.out.2.2.1.ext Z.out,Y.out.2.2.2.1,Y.out.2.2.2.2.trans Z.out⟩;have u:N.cell? ⟨w.heap.size,k,none⟩=some (.int .u32 (r.getD k 0:Nat)):=by rw[xs.out.2.2.1.cell,Ec (by rw[xs.out.1];omega)]
    have xd:=xs.out.2.2.1.frozen k;clear hF xq Z Y Hw;obtain⟨t,L⟩:∃t:Int,t=4294967296+(x:Int)-y-a:=⟨_,rfl⟩;rw[<-L]at xj xh xe ⊢;replace L:=Af L;generalize r.getD k 0=xl at *;go_wp2;exact⟨xs.out.step O C.out M.out xc xf xi (by first | exact xe.out.2.2.2.1 | exact xe.out.2.2.2.2.1) xe.out.2.2.2.2.2,by simp[intOf];omega⟩
  .obtain rfl:k=n:=by omega
   have xa:=Af (Y.out.close U.out.symm (by rw[<-T.out];exact I) S.out)
   have z:Hid (Words wr (.slice (some ⟨w.heap.size,0,none⟩) k k) r):=by
    have:=CJ (c:=k) Y.out.2.2.1 Y.out.2.1 ZeG ZbC;exact Zjx
   go_wp2_with (go_at_call 288;refine(Gd _ _ _ z.out).mono ?_;rintro e N ⟨h,rfl,xb,Z⟩);go_ret;refine⟨h,rfl,?_,Y.out.2.2.2.2.trans Z⟩;rw[Bn Y.out.2.1,xa.out]at xb;exact xb
theorem KP(va vb:Value)(l R:List Nat)(w:World)(t:Words w va l)(G:Words w vb R)(g:l.length<=4398046511104)(S:R.length<=4398046511104) :
  Calls prog 278 #[va,vb] w λe N=>∃h,e=.returned h/\Words N h (Aw (val l*val R))/\Ext w N:=by
 obtain⟨A,c,rfl,I,xs,F⟩:=t.open_;obtain⟨B,d,rfl,K,xz,M⟩:=G.open_;have xk:=Af t.small;have xq:=Af G.small;clear t G;have hA:=Af F;have hB:=Af M;clear F M;obtain⟨n,U⟩:∃n,n=l.length:=⟨_,rfl⟩;obtain⟨m,xb⟩:∃m,m=R.length:=⟨_,rfl⟩;rw[<-U]at I g ⊢;rw[<-xb]at K S ⊢;replace U:=Af U;replace xb:=Af xb;have xp:=λW=>CB (n+m) ZbC .i64 .i64 W;simp only[Ycw]at xp;go_enter func278,ntmps278;go_wp2;go_loopw [6] (λi wr=>∃(k:Nat) (r:List Nat),k<=n/\i=.int .i64 k/\Hid (A1M w wr l R r n m k)) (λi _=>n-(intOf i).toNat)
 case atStart => exact ⟨0, List.replicate (n + m) 0, Yay _, rfl, by simp, Cv _, Blk.new _ _ _, by
  have:∀q,val (List.replicate q 0)=0:=λq=>by
   induction q with
   |zero=>rfl
   |succ q P=>simp[Yef,val,P]
  simp[val,List.take_replicate,this],(Ext.refl _).alloc _⟩
 case round=>
  obtain⟨k,r,E,rfl,Y⟩:=hrel;by_cases O:k<n
  .obtain ⟨b, o, rfl, G, xa⟩:=hA.out Zew
   replace xa:=(Y.out.2.2.2.2.cell (p:=⟨b,o+k,none⟩) G).trans (xa k Zcl);have xf:=Be xk.out k;generalize F:l.getD k 0=x at *;replace F:=Af F;unfold BB at xf;go_wp2;obtain⟨wo,rfl⟩:∃wo:World,wo=wr:=⟨_,rfl⟩;go_loopw [7,8] (λcy i wr=>∃(j a:Nat) (r:List Nat),j<=m/\i=.int .i64 j/\cy=.int .u64 a/\a<4294967296/\Hid (MulIn w wr l R r n m k j x a)) (λ_ i _=>m-(intOf i).toNat)
   case atStart=>exact⟨0,0,r,Yay _,rfl,rfl,by omega,Y.out.1,Y.out.2.1,Y.out.2.2.1,by simp[val,Y.out.2.2.2.1],Y.out.2.2.2.2⟩
   case round=>
    obtain⟨j,a,r,X,rfl,rfl,xm,s⟩:=hrel;by_cases xv:j<m
    .obtain ⟨H, V, rfl, xc, xr⟩:=hB.out (by rw [<-xb.out]; omega)
     replace xr:=(s.out.2.2.2.2.cell (p:=⟨H,V+j,none⟩) xc).trans (xr j (by rw[<-xb.out];omega));have xi:=Be xq.out j;have xj:=Be s.out.2.1 (k+j);have u:wr.cell? ⟨w.heap.size,k+j,none⟩=some (.int .u32 (r.getD (k+j) 0:Nat)):=by rw[s.out.2.2.1.cell,Ec (by rw[s.out.1];omega)]
     have xg:=s.out.2.2.1.frozen (k+j);generalize M:R.getD j 0=y at *;generalize Q:r.getD (k+j) 0=z at *;replace M:=Af M;replace Q:=Af Q;unfold BB at xi xj;have xE:wr.cell? ⟨b,o+k,none⟩=some (.int .u32 (x:Int)):=(s.out.2.2.2.2.cell (p:=⟨b,o+k,none⟩) G).trans ((Y.out.2.2.2.2.cell (p:=⟨b,o+k,none⟩) G).symm.trans xa);have xh:=Af (A3a x y z a xf xi xj xm);have xn:(x:Int)*y+z+a<=18446744073709551615:=xh.out.2.2.2.2.2;have xl:0<=(x:Int)*y+z+a:=xh.out.2.2.2.2.1;have xF:¬n<=k:=by omega
     have xt:¬m<=j:=by omega
     have xG:¬n+m<=k+j:=by omega
     have xx:IntKind.i64.wrap ((k:Int)+j)=(k:Int)+j:=IntWalk.i64_in _ ZbC;have xy:((k:Int)+j).toNat=k+j:=by omega
     have xH:(k:Int)+j<(n:Int)+m:=by omega
     have xI:0<=(k:Int)+j:=by omega
     have xB:Hid (IntKind.u64.wrap (x:Int)=x):=Af (IntWalk.u64_in _ ZbC);have xC:Hid (IntKind.u64.wrap (y:Int)=y):=Af (IntWalk.u64_in _ ZbC);have xD:Hid (IntKind.u64.wrap (z:Int)=z):=Af (IntWalk.u64_in _ ZbC);replace xx:=Af xx;replace xy:=Af xy;go_upto_region 9 with(fail)
     refine wp_region_v ZbG [[], [], [(28, 0), (29, 1)], [(30, 2)], [(31, 3)], [], [], [(33, 5), (34, 6)], [(35, 7)], [(36, 8)], [(32, 4), (37, 9)], [], [], [], [(40, 12), (41, 13)], [(39, 11), (42, 14)], [(43, 15)], [(44, 16)], [(38, 10), (45, 17)], [], [(46, 18), (47, 19)]] [[], [], [0, 1], [0, 1, 2], [0, 1, 2, 3], [], [], [5, 6], [5, 6, 7], [5, 6, 7, 8], [0, 1, 2, 3, 4, 5, 6, 7, 8, 9], [], [], [], [12, 13], [11, 12, 13, 14], [11, 12, 13, 14, 15], [11, 12, 13, 14, 15, 16], [0, 1, 2, 3, 4, 5, 6, 7, 8, 9, 10, 11, 12, 13, 14, 15, 16, 17], [], [0, 1, 2, 3, 4, 5, 6, 7, 8, 9, 10, 11, 12, 13, 14, 15, 16, 17, 18, 19]]
      [λv _=>v=.slice (some ⟨b,o,none⟩) n c,λv _=>v=.int .i64 (k:Int),λv _=>v=.pointer (some ⟨b,o+k,none⟩),λv _=>v=.int .u32 (x:Int),λv _=>v=.int .u64 (x:Int),λv _=>v=.slice (some ⟨H,V,none⟩) m d,λv _=>v=.int .i64 (j:Int),λv _=>v=.pointer (some ⟨H,V+j,none⟩),λv _=>v=.int .u32 (y:Int),λv _=>v=.int .u64 (y:Int),λv _=>v=.int .u64 ((x:Int)*y),λv _=>v=.slice (some ⟨w.heap.size,0,none⟩) (n+m) (n+m),λv _=>v=.int .i64 (k:Int),λv _=>v=.int .i64 (j:Int),λv _=>v=.int .i64 ((k:Int)+j),λv _=>v=.pointer (some ⟨w.heap.size,k+j,none⟩),λv _=>v=.int .u32 (z:Int),λv _=>v=.int .u64 (z:Int),λv _=>v=.int .u64 ((x:Int)*y+z),λv _=>v=.int .u64 (a:Int),λv _=>v=.int .u64 ((x:Int)*y+z+a)]
      rfl ZbG ZbG ?stab ?steps ?fin
     case stab=>exact .cons (Stab.eq _) (.cons (Stab.eq _) (.cons (Stab.eq _) (.cons (Stab.eq _) (.cons (Stab.eq _) (.cons (Stab.eq _) (.cons (Stab.eq _) (.cons (Stab.eq _) (.cons (Stab.eq _) (.cons (Stab.eq _) (.cons (Stab.eq _) (.cons (Stab.eq _) (.cons (Stab.eq _) (.cons (Stab.eq _) (.cons (Stab.eq _) (.cons (Stab.eq _) (.cons (Stab.eq _) (.cons (Stab.eq _) (.cons (Stab.eq _) (.cons (Stab.eq _) (.cons (Stab.eq _) .nil))))))))))))))))))))
     case steps=>
      refine .cons ?s0 (.cons ?s1 (.cons ?s2 (.cons ?s3 (.cons ?s4 (.cons ?s5 (.cons ?s6 (.cons ?s7 (.cons ?s8 (.cons ?s9 (.cons ?s10 (.cons ?s11 (.cons ?s12 (.cons ?s13 (.cons ?s14 (.cons ?s15 (.cons ?s16 (.cons ?s17 (.cons ?s18 (.cons ?s19 (.cons ?s20 .nil))))))))))))))))))))
      case s0=>
       intro N L Z E t I p;have e0:L (.tmp 0)=.slice (some ⟨b,o,none⟩) n c:=t 0 ZbH;exact AD (by simp[execOp,e0,go_sem]) rfl
      case s1=>
       intro N L Z E t I p;exact ZiT
      case s2=>
       intro N L Z E t I p;have xA:L (.tmp 28)=.slice (some ⟨b,o,none⟩) n c:=E.1 _ rfl;have xJ:L (.tmp 29)=.int .i64 (k:Int):=E.2.1 _ rfl;exact AD (by simp[execOp,xA,xJ,xF,go_sem]) rfl
      case s3=>
       intro N L Z E t I p;have xK:L (.tmp 30)=.pointer (some ⟨b,o+k,none⟩):=E.1 _ rfl;have f:N.cell? ⟨b,o+k,none⟩=some (.int .u32 (x:Int)):=Z.cellv xE;exact AD (by simp[execOp,xK,f,go_sem]) rfl
      case s4=>
       intro N L Z E t I p;have xL:L (.tmp 31)=.int .u32 (x:Int):=E.1 _ rfl;exact AD (by simp[execOp,xL,xB.out,go_sem]) rfl
      case s5=>
       intro N L Z E t I p;have J:L (.tmp 1)=.slice (some ⟨H,V,none⟩) m d:=t 1 ZbH;exact AD (by simp[execOp,J,go_sem]) rfl
      case s6=>
       intro N L Z E t I p;exact ZiU
      case s7=>
       intro N L Z E t I p;have xN:L (.tmp 33)=.slice (some ⟨H,V,none⟩) m d:=E.1 _ rfl;have xO:L (.tmp 34)=.int .i64 (j:Int):=E.2.1 _ rfl;exact AD (by simp[execOp,xN,xO,xt,go_sem]) rfl
      case s8=>
       intro N L Z E t I p;have xP:L (.tmp 35)=.pointer (some ⟨H,V+j,none⟩):=E.1 _ rfl;have f:N.cell? ⟨H,V+j,none⟩=some (.int .u32 (y:Int)):=Z.cellv xr;exact AD (by simp[execOp,xP,f,go_sem]) rfl
      case s9=>
       intro N L Z E t I p;have xQ:L (.tmp 36)=.int .u32 (y:Int):=E.1 _ rfl;exact AD (by simp[execOp,xQ,xC.out,go_sem]) rfl
      case s10=>
       intro N L Z E t I p;have xM:L (.tmp 32)=.int .u64 (x:Int):=E.1 _ rfl;have xR:L (.tmp 37)=.int .u64 (y:Int):=E.2.1 _ rfl;exact AD (by simp[execOp,xM,xR,xh.out.1,go_sem]) rfl
      case s11=>
       intro N L Z E t I p;have e5:L (.tmp 5)=.slice (some ⟨w.heap.size,0,none⟩) (n+m) (n+m):=t 5 ZbH;exact AD (by simp[execOp,e5,go_sem]) rfl
      case s12=>
       intro N L Z E t I p;exact ZiT
      case s13=>
       intro N L Z E t I p;exact ZiU
      case s14=>
       intro N L Z E t I p;have xU:L (.tmp 40)=.int .i64 (k:Int):=E.1 _ rfl;have xV:L (.tmp 41)=.int .i64 (j:Int):=E.2.1 _ rfl;exact AD (by simp[execOp,xU,xV,xx.out,go_sem]) rfl
      case s15=>
       intro N L Z E t I p;have xT:L (.tmp 39)=.slice (some ⟨w.heap.size,0,none⟩) (n+m) (n+m):=E.1 _ rfl;have xW:L (.tmp 42)=.int .i64 ((k:Int)+j):=E.2.1 _ rfl;exact AD (by simp[execOp,xT,xW,xG,xy.out,xH,xI,go_sem]) rfl
      case s16=>
       intro N L Z E t I p;have xX:L (.tmp 43)=.pointer (some ⟨w.heap.size,k+j,none⟩):=E.1 _ rfl;have f:N.cell? ⟨w.heap.size,k+j,none⟩=some (.int .u32 (z:Int)):=Z.cellv u;exact AD (by simp[execOp,xX,f,go_sem]) rfl
      case s17=>
       intro N L Z E t I p;have xY:L (.tmp 44)=.int .u32 (z:Int):=E.1 _ rfl;exact AD (by simp[execOp,xY,xD.out,go_sem]) rfl
      case s18=>
       intro N L Z E t I p;have xS:L (.tmp 38)=.int .u64 ((x:Int)*y):=E.1 _ rfl;have xZ:L (.tmp 45)=.int .u64 (z:Int):=E.2.1 _ rfl;exact AD (by simp[execOp,xS,xZ,xh.out.2.1,go_sem]) rfl
      case s19=>
       intro N L Z E t I p;have e7:L (.tmp 7)=.int .u64 (a:Int):=t 7 ZbH;exact AD ZeV rfl
      case s20=>
       intro N L Z E t I p;have ya:L (.tmp 46)=.int .u64 ((x:Int)*y+z):=E.1 _ rfl;have yb:L (.tmp 47)=.int .u64 (a:Int):=E.2.1 _ rfl;exact AD (by simp[execOp,ya,yb,xh.out.2.2.1,go_sem]) rfl
     case fin=>
      intro gf N Z hF;have xu:=hF 20 _ rfl;simp only[Yat,Ybg,Nat.reduceAdd,Ybn,YaW,Ybl,Ycf,FH,Act.put,Ybe,YbB,YbS,xu];replace Z:=Af ((Ext.refl _).drew.trans Z);have xw:Hid (MulIn w N l R r n m k j x a):=⟨s.out.1,s.out.2.1,s.out.2.2.1.ext Z.out,s.out.2.2.2.1,s.out.2.2.2.2.trans Z.out⟩;replace u:=Z.out.cellv u;replace xg:=xw.out.2.2.1.frozen (k+j);clear hF xu Z s xa xr xE xx xy xF xt xG xH xI xB xC xD;have xo:=Af (xw.out.step (u:=((x:Int)*y+z+a)%4294967296) (v:=((x:Int)*y+z+a)/4294967296) xv O M.out Q.out xf xi xj xm (by rw[BF];simp) (by rw[BF];simp));generalize (x:Int)*y+z+a=T at *;go_wp2;exact⟨by first | exact xo.out | (rw[Int.emod_emod_of_dvd];exact xo.out),by simp[intOf];omega⟩
    .obtain rfl:j=m:=by omega
     have u:wr.cell? ⟨w.heap.size,k+j,none⟩=some (.int .u32 (r.getD (k+j) 0:Nat)):=by rw[s.out.2.2.1.cell,Ec (by rw[s.out.1];omega)]
     have xg:=s.out.2.2.1.frozen (k+j);have xd:=Af (s.out.close O xb.out.symm F.out xm);go_wp2;exact⟨⟨k+1,_,O,by simp,xd⟩,by simp[intOf];omega⟩
  .obtain rfl:k=n:=by omega
   have hW:Hid (Words wr (.slice (some ⟨w.heap.size,0,none⟩) (k+m) (k+m)) r):=by
    have:=CJ (c:=k+m) Y.out.2.2.1 Y.out.2.1 ZeG ZbC;exact Zjx
   have xd:Hid (val r=val l*val R):=by
    have C:=Y.out.2.2.2.1;have er:r.take (k+m)=r:=Yar ZeG;have ea:l.take k=l:=Yar Zcl;rw[er,ea]at C;exact C
   go_wp2_with (go_at_call 288;refine(Gd _ _ _ hW.out).mono ?_;rintro e N ⟨h,rfl,xe,Z⟩);go_ret;refine⟨h,rfl,?_,Y.out.2.2.2.2.trans Z⟩;rw[Bn Y.out.2.1,xd.out]at xe;exact xe
theorem HP(s f:Value)(x y:Nat)(w:World)(t:Words w s (Aw x))(I:Words w f (Aw y)) :
  Calls prog 276 #[s,f] w λe N=>e=.returned (.int .i64 (FE x y))/\Ext w N:=by
 obtain⟨A,c,rfl,J,u,G⟩:=t.open_;obtain⟨B,d,rfl,L,z,M⟩:=I.open_;clear t I;have a:=Af G;have g:=Af M;clear G M;obtain⟨n,U⟩:∃n,n=(Aw x).length:=⟨_,rfl⟩;obtain⟨m,T⟩:∃m,m=(Aw y).length:=⟨_,rfl⟩;rw[<-U]at J ⊢;rw[<-T]at L ⊢;replace U:=Af U;replace T:=Af T;rcases Yci n m with O | heq | hgt
 .have V:decide ((n:Int)<m)=true:=ZiI
  have P:decide ((m:Int)<n)=false:=ZiI
  go_enter func276,ntmps276;go_wp2;exact Zii
 .subst heq
  have V:decide ((n:Int)<n)=false:=by simp
  go_enter func276,ntmps276;go_wp2;go_loopw [5] (λi wr=>∃k:Nat,k<=n/\i=.int .i64 ((k:Int)-1)/\Hid (Ext w wr/\∀i,k<=i->(Aw x).getD i 0=(Aw y).getD i 0)) (λi _=>(intOf i+1).toNat)
  case atStart=>exact Zan
  case round=>
   obtain⟨k,F,rfl,S⟩:=hrel;by_cases l:k=0
   .exact Zao
   .obtain ⟨q, rfl⟩:∃q, k=q+1:=⟨k-1, by omega⟩
    obtain⟨b,o,rfl,I,W⟩:=a.out Zcl;replace W:=(S.out.1.cell (p:=⟨b,o+q,none⟩) I).trans (W q Zcl);obtain⟨H,Q,rfl,Z,r⟩:=g.out Zec;replace r:=(S.out.1.cell (p:=⟨H,Q+q,none⟩) Z).trans (r q Zec);generalize j:(Aw x).getD q 0=X at *;generalize p:(Aw y).getD q 0=Y at *;replace j:=Af j;replace p:=Af p;have h:((q+1:Nat):Int)-1=q:=by omega
    rw[h];rcases Yci X Y with O | heq | hgt
    .have v:decide ((X:Int)<Y)=true:=ZiI
     go_wp2;go_quiet (fail);go_wp2;go_ret;exact⟨by rw[SV (k:=q) ZdT Zcl (λi K=>S.out.2 i K) (by rw[j.out,p.out];exact O)];rfl,S.out.1.drewN _⟩
    .subst heq
     have v:decide ((X:Int)<X)=false:=by simp
     go_wp2;go_quiet (fail);go_wp2;go_quiet (fail);go_wp2;refine⟨⟨q,by omega,rfl,S.out.1.drewN _,λi K=>?_⟩,by simp[intOf]⟩;rcases YaI q i with C | C
     .exact S.out.2 i C
     .obtain rfl:i=q:=by omega
      rw[j.out,p.out]
    .have v:decide ((X:Int)<Y)=false:=ZiI
     have xa:decide ((Y:Int)<X)=true:=ZiI
     have R:¬((X:Int)<Y):=by omega
     go_wp2;go_quiet (fail);go_wp2;go_quiet (fail);go_wp2;exact Zha
 .have V:decide ((n:Int)<m)=false:=ZiI
  have P:decide ((m:Int)<n)=true:=ZiI
  go_enter func276,ntmps276;go_wp2;exact Zia
theorem Oo(s:Value)(K:List Nat)(d:Nat)(w:World)(I:Words w s K)(g:K.length<=4398046511104)(h:0<d)(j:d<4294967296) :
  Calls prog 310 #[s,.int .u64 d] w λe N=>∃X,e=.returned (.tuple #[X,.int .u64 (val K%d:Nat)])/\Words N X (Aw (val K/d))/\Ext w N:=by
 obtain⟨A,c,rfl,G,l,E⟩:=I.open_;have R:=Af I.small;clear I;have O:=Af E;clear E;obtain⟨n,U⟩:∃n,n=K.length:=⟨_,rfl⟩;rw[<-U]at G g ⊢;replace U:=Af U;have P:=λW=>CB n (by omega) .i64 .i64 W;go_enter func310,ntmps310;go_wp2;go_loopw [7,8] (λt i wr=>∃(k r:Nat) (q:List Nat),k<=n/\i=.int .i64 ((k:Int)-1)/\t=.int .u64 r/\r<d/\Hid (DsRel w wr K q d n k r)) (λ_ i _=>(intOf i+1).toNat)
 case atStart => exact ⟨n, 0, List.replicate n 0, Yai _, rfl, rfl, h, by simp, Cv _, Blk.new _ _ _, by
  have B:K.drop n=[]:=YaN (by rw[<-U.out];omega);rw[B];simp[val],(Ext.refl _).alloc _⟩
 case round=>
  obtain⟨k,r,q,C,rfl,rfl,Y,J⟩:=hrel;by_cases f:k=0
  .subst f
   have L:Hid (Words wr (.slice (some ⟨w.heap.size,0,none⟩) n n) q):=by
    have:=CJ (c:=n) J.out.2.2.1 J.out.2.1 (by rw[J.out.1];omega) (by omega);rw[J.out.1]at this;exact this
   have Q:Hid (val K/d=val q/\val K%d=r):=by
    have B:=J.out.2.2.2.1;simp only[YaW]at B;rw[B];constructor
    .rw [YaM,YcU h,YbK Y,Ybf]
    .rw [YaM,Ydz,YaV Y]
   go_wp2_with (go_at_call 288;refine(Gd _ _ _ L.out).mono ?_;rintro e N ⟨X,rfl,S,Z⟩);go_ret2;refine⟨X,by rw[Q.out.2];rfl,?_,J.out.2.2.2.2.trans Z⟩;rw[Bn J.out.2.1,<-Q.out.1]at S;exact S
  .obtain ⟨k, rfl⟩:∃q, k=q+1:=⟨k-1, by omega⟩
   obtain⟨b,o,rfl,F,M⟩:=O.out (by rw[<-U.out];omega);replace M:=(J.out.2.2.2.2.cell (p:=⟨b,o+k,none⟩) F).trans (M k (by rw[<-U.out];omega));have z:=Be R.out k;have u:wr.cell? ⟨w.heap.size,k,none⟩=some (.int .u32 (q.getD k 0:Nat)):=by rw[J.out.2.2.1.cell,Ec (by rw[J.out.1];omega)]
   have V:=J.out.2.2.1.frozen k;generalize E:K.getD k 0=x at *;replace E:=Af E;unfold BB at z;have a:((k+1:Nat):Int)-1=k:=by omega
   rw[a];have Q:Hid (((r:Int)*4294967296+x)/d%4294967296=((r*4294967296+x)/d:Nat)/\((r:Int)*4294967296+x)%d=((r*4294967296+x)%d:Nat)):=A0Y Y z j;go_wp2;refine⟨⟨k,(r*4294967296+x)%d,_,by omega,rfl,by rw[Q.out.2],YaR _ h,J.out.step C U.out.symm E.out h Y j z Q.out.1⟩,by simp[intOf]⟩
theorem QD(v:Value)(l:List Nat)(w:World)(h:Words w v l)(g:l.length<=2) :
  Calls prog 315 #[v] w λe N=>e=.returned (.int .u64 (val l:Nat))/\w=N:=by
 have c:=Be h.small 0;have q:=Be h.small 1
 have r:Hid (val l=l.getD 0 0+BB*l.getD 1 0):=by
  match l,g with
  |[],_=>simp[val,Hid]
  |[a],_=>simp[val,Hid]
  |[a,b],_=>simp[val,Hid]
 replace h:=Af h;generalize C:l.getD 0 0=x at *;generalize M:l.getD 1 0=y at *;replace C:=Af C;replace M:=Af M;unfold BB at c q;go_enter func315,ntmps315;go_wp2_with fail;refine(Iy v l 1 y _ h.out M.out).mono ?_;rintro e k ⟨rfl,rfl⟩;go_wp2_with fail;refine(Iy v l 0 x _ h.out C.out).mono ?_;rintro e k ⟨rfl,rfl⟩;go_wp2;go_ret;exact⟨by rw[r.out,BF,show x+4294967296*y=y*4294967296+x by omega];rfl,rfl⟩
theorem Zx(a b:Nat)(w:World)(t:a<18446744073709551616)(E:b<18446744073709551616) :
  Calls prog 314 #[.int .u64 a,.int .u64 b] w λe N=>e=.returned (.int .u64 (Nat.gcd a b:Nat))/\w=N:=by
 go_enter func314,ntmps314;go_wp2;go_loop [0,1] (λx y=>∃p q:Nat,p<18446744073709551616/\q<18446744073709551616/\x=.int .u64 p/\y=.int .u64 q/\Hid (Nat.gcd p q=Nat.gcd a b)) (λ_ y=>(intOf y).toNat)
 case atStart=>exact⟨a,b,t,E,rfl,rfl,rfl⟩
 case round=>
  obtain⟨p,q,F,m,rfl,rfl,R⟩:=hrel;by_cases c:q=0
  .subst c
   go_wp2;go_ret;exact⟨by rw[<-R.out,Nat.gcd_zero_right];rfl,rfl⟩
  .have A:0<q:=by omega
   have d:decide ((0:Int)<q)=true:=by simpa using A
   obtain⟨r,Y⟩:∃r,r=p%q:=⟨_,rfl⟩;have B:(p:Int)%(q:Int)=(r:Int):=by rw[Y];rfl
   have O:r<q:=by rw[Y];exact YaR _ A
   replace Y:=Af Y;go_wp2;go_round
   case rel=>exact⟨q,r,m,by omega,rfl,by rw[<-B],by rw[Y.out,<-R.out,YcQ p q,YeS q p];exact YcQ _ _⟩
   case measure=>simp[intOf];omega
theorem Win.ext{b:Nat}{pre x post:List Nat}(h:Win w b pre x post)(q:Ext w p):Win p b pre x post:=Blk.ext h q
theorem Only.ext{b:Nat}(h:Only b w p)(q:Ext p uG):Only b w uG:=⟨q.os.trans h.os,q.tape.trans h.tape,q.output.trans h.output,Yau h.size q.size,λk B A=>(q.block (Yaq B h.size)).trans (h.block k B A)⟩
def Zz(w:World)(u v:List Nat)(e:Ending)(N:World):Prop:=∃q:Nat,e=.returned (.int .u64 q)/\q<BB/\val u/val v<=q/\q*val v<val u+val v/\Ext w N
def Abj(w:World)(a Z A:Nat)(u v:List Nat)(q r:Value)(s:World):Prop:=
 ∃t p:Nat,q=.int .u64 t/\r=.int .u64 p/\p<4294967296/\t<=8589934592/\Hid (t*a+p=A+BB*Z/\val u/val v<=t)/\Hid (Ext w s)
set_option maxRecDepth 1000000 in
theorem A1g(b z ov n cu cv:Nat)(pre post u v:List Nat)(w:World)(V:Win w b pre u post)(M:u.length=n+1)(E:v.length=n)(xd:2<=n)(g:n<=4398046511104)(l:BK u)(h:BK v)
  (xe:∀i,i<n->w.cell? ⟨z,ov+i,none⟩=some (.int .u32 (v.getD i 0:Nat))) (xm:n+1<=cu) (xj:n<=cv) (xh:2147483648<=v.getD (n-1) 0) (O:val u<BB*val v) :
  Calls prog 311 #[.slice (some ⟨b,pre.length,none⟩) (n+1) cu,.slice (some ⟨z,ov,none⟩) n cv] w (Zz w u v):=by
 obtain⟨m,rfl⟩:∃m,n=m+2:=⟨n-2,by omega⟩;have W:=Af (A9J M E l h Zei O);have xc:=V.cell (k:=m+2) ZbC;have p:=V.cell (k:=m+1) ZbC;have c:=V.cell (k:=m) ZbC;have x:=xe (m+1) ZbC;have y:=xe m ZbC;have xb:=Be l (m+2);have xl:=Be l (m+1);have xr:=Be l m;have U:=Be h (m+1);have xg:=Be h m;have xy:2147483648<=v.getD (m+1) 0:=xh;generalize xs:u.getD (m+2) 0=R at *;generalize xt:u.getD (m+1) 0=T at *;generalize xq:u.getD m 0=U2 at *;generalize xu:v.getD (m+1) 0=f at *;generalize xv:v.getD m 0=V2 at *;replace xs:=Af xs;replace xt:=Af xt;replace xq:=Af xq;replace xu:=Af xu;replace xv:=Af xv;unfold BB at xb xl xr U xg;replace V:=Af V;replace M:=Af M;replace E:=Af E;replace l:=Af l;replace h:=Af h;replace xe:=Af xe;replace O:=Af O;clear xh;generalize J:pre.length=P at *;replace J:=Af J;have G:m<=4398046511102:=by omega
 clear g xd;go_enter func311,ntmps311;go_wp2;go_quiet (fail)
 have N:Hid (((R:Int)*4294967296+T)/f=((T+BB*R)/f:Nat)/\((R:Int)*4294967296+T)%f=((T+BB*R)%f:Nat)):=by
  have e:(R:Int)*4294967296+T=((T+BB*R:Nat):Int):=by rw[BF];omega
  exact Zip
 go_upto_block 0 with(fail)
 rw[N.out.1,N.out.2];go_cut [7,8] (λq r wx=>∃qn:Nat,q=.int .u64 qn/\qn<4294967296/\Hid (val u/val v<=qn/\qn*val v<val u+val v)/\Hid (Ext w wx))
 case first=>
  go_wp2;go_loopw [7,8] (λq r wx=>Abj w f R T u v q r wx) (λq _ _=>(intOf q).toNat)
  case atStart=>
   have s:0<f:=by omega
   refine⟨_,_,rfl,rfl,?_,?_,⟨?_,?_⟩,?_⟩
   .have:=YaR (T+BB*R) s;omega
   .refine Yca (Ybu ?_)
    have:2147483648*8589934592<=f*8589934592:=YaC _ xy;rw[BF];omega
   .rw [YaM];exact YcT _ _
   .exact W.out.start
   .exact (Ext.refl _).drewN _
  case round=>
   obtain⟨q,r,rfl,rfl,Y,C,I,a⟩:=hrel;have Z:=a.out.cellv c;have X:wr.cell? ⟨z,ov+(m+1),none⟩=some (.int .u32 (f:Nat)):=a.out.cellv x;have o:wr.cell? ⟨z,ov+m,none⟩=some (.int .u32 (V2:Nat)):=a.out.cellv y;clear xc p c x y;have xw:=Af (λL=>W.out.down I.out.1 I.out.2 (q:=q) (r:=r) L);have k:Hid (∀q' S,q'*f+S=T+BB*R->val u/val v<=q'->q'<BB->q'*V2<=S*BB+U2->val u/val v<=q'/\q'*val v<val u+val v):=λq' S A B K Q=>⟨B,W.out.after A K Q⟩;have xx:Hid (∀q' S,q'*f+S=T+BB*R->BB<=S->q'<BB/\q'*V2<=S*BB+U2):=λq' S A B=>W.out.great A B;by_cases H:4294967296<=q
   .have xk:decide ((4294967296:Int)<=q)=true:=ZiI
    replace H:=Af H;replace C:=Af C;have d:=Af (xw.out (.inl (by rw[BF];exact H.out)));by_cases j:4294967296<=r+f
    .have xp:(4294967296:Int)<=(r:Int)+f:=by omega
     replace j:=Af j;go_wp2;go_quiet (fail);have t:(1:Int)<=q:=by have:=H.out;omega
     have xf:(q:Int)<=8589934592:=by have:=C.out;omega
     clear xk;go_wp2;go_meet
     case rel=>
      exact Zgz
    .have xp:decide ((4294967296:Int)<=(r:Int)+f)=false:=ZiI
     replace j:=Af j;go_wp2;go_quiet (fail);have t:(1:Int)<=q:=by have:=H.out;omega
     have xf:(q:Int)<=8589934592:=by have:=C.out;omega
     clear xk;exact ZgF
   .have xk:decide ((4294967296:Int)<=q)=false:=ZiI
    have xo:q<4294967296:=by omega
    replace H:=Af H;replace C:=Af C;have F:(q:Int)*V2<=18446744065119617025:=by have:=FU xo xg;omega
    have xa:(0:Int)<=(q:Int)*V2:=Yct ZbC ZbC;by_cases xi:r*4294967296+U2<q*V2
    .have xn:decide ((r:Int)*4294967296+U2<(q:Int)*V2)=true:=ZiI
     have d:=Af (xw.out (.inr (by rw[BF];exact xi)));replace xi:=Af xi;have t:(1:Int)<=q:=by have:=d.out.1;omega
     by_cases j:4294967296<=r+f
     .have xp:decide ((4294967296:Int)<=(r:Int)+f)=true:=ZiI
      replace j:=Af j;go_wp2;go_quiet (fail);clear F xa xn xk;go_wp2;go_meet
      case rel=>
       exact Zgz
     .have xp:decide ((4294967296:Int)<=(r:Int)+f)=false:=ZiI
      replace j:=Af j;go_wp2;go_quiet (fail);clear F xa xn xk;exact ZgF
    .have xn:decide ((r:Int)*4294967296+U2<(q:Int)*V2)=false:=ZiI
     replace xi:=Af xi;go_wp2;go_quiet (fail);go_wp2;go_meet
     case rel=>exact⟨q,rfl,xo,k.out _ _ I.out.1 I.out.2 (by rw[BF];exact xo) (by have:=xi.out;rw[BF];omega),a.out.drewN _⟩
 case rest=>
  obtain⟨q,rfl,C,I,a⟩:=hcut;clear xc p c x y;go_wp2;go_ret;exact⟨q,rfl,by rw[BF];exact C,I.out.1,I.out.2,a.out⟩
def LsRel(w wr:World)(b:Nat)(pre post u v x:List Nat)(n q k cy z:Nat):Prop:=
 x.length=n/\BK x/\Win wr b pre x post/\Only b w wr/\val (x.take k)+q*val (v.take k)=val (u.take k)+BB^k*(cy+z)/\(∀i,k<=i->x.getD i 0=u.getD i 0)/\(v.length<k->cy=0)
theorem LsRel.step{pre post u v x:List Nat}{A q k cy V y z:Nat}(h:LsRel w p n pre post u v x A q k cy V)(E:k<A)(M:v.getD k 0=y)(L:x.getD k 0=z)(Y:z<BB)(F:V<=1)(P:cy<BB){e:Int}
  (b:e=(z+BB*(if z<(q*y+cy)%BB+V then 1 else 0)-(q*y+cy)%BB-V:Nat)) :
  LsRel w (p.setCell ⟨n,pre.length+k,none⟩ (.int .u32 e)) n pre post u v (x.set k (z+BB*(if z<(q*y+cy)%BB+V then 1 else 0)-(q*y+cy)%BB-V)) A q (k+1) ((q*y+cy)/BB) (if z<(q*y+cy)%BB+V then 1 else 0):=by
 obtain⟨B,C,K,Q,G,O,g⟩:=h;have N:=YaR (q*y+cy) CS;have Z:z+BB*(if z<(q*y+cy)%BB+V then 1 else 0)-(q*y+cy)%BB-V<BB:=by split<;>omega
 have m:z+BB*(if z<(q*y+cy)%BB+V then 1 else 0)-(q*y+cy)%BB-V+((q*y+cy)%BB+V)=z+BB*(if z<(q*y+cy)%BB+V then 1 else 0):=by split<;>omega
 generalize (if z<(q*y+cy)%BB+V then 1 else 0:Nat)=S at *;generalize f:z+BB*S-(q*y+cy)%BB-V=X at *;refine⟨by simpa using B,Dq C k Z,by rw[b];exact K.set ZbC X,Q.set _ _,?_,λi J=>?_,λI=>?_⟩
 .rw [Bf, Dw, Cq ZbC, Bf u, Bf v, M, <-O k (Yai _), L]
  have o:=YcK (q*y+cy) BB
  have H:BB^(k+1)*((q*y+cy)/BB+S)+BB^k*z=BB^k*X+q*(BB^k*y)+BB^k*(cy+V):=by
   have W:BB*((q*y+cy)/BB+S)+z=X+q*y+(cy+V):=Zhy
   rw[Ybt,Yba,<-YaG,W,YaG,YaG,Ybm q]
  rw[YaG q];omega
 .rw [<-O i ZbC]
  exact ZaA
 .have a:y=0:=by rw [<-M];simp [show v.length<=k by omega]
  rw[a,Ycz,YaH];exact YbK P
theorem Aap{q y c z d:Nat}(n:z<4294967296)(A:d<=1) :
  (4294967296+(z:Int)-((q:Int)*y+c)%4294967296-d)%4294967296=((z+BB*(if z<(q*y+c)%BB+d then 1 else 0)-(q*y+c)%BB-d:Nat):Int) /\
  1-(4294967296+(z:Int)-((q:Int)*y+c)%4294967296-d)/4294967296=((if z<(q*y+c)%BB+d then 1 else 0:Nat):Int) /\
  ((q:Int)*y+c)/4294967296=(((q*y+c)/BB:Nat):Int)/\0<=4294967296+(z:Int)-((q:Int)*y+c)%4294967296-d/\4294967296+(z:Int)-((q:Int)*y+c)%4294967296-d<=8589934591:=by
 have e:(q:Int)*y+c=((q*y+c:Nat):Int):=by simp[Ycw,Ydy]
 have v:=YaR (q*y+c) CS;have o:((q:Int)*y+c)%4294967296=(((q*y+c)%BB:Nat):Int):=by rw[e,BF,Yds];rfl
 have H:((q:Int)*y+c)/4294967296=(((q*y+c)/BB:Nat):Int):=by rw[e,BF,Ydr];rfl
 rw[o,H];generalize (q*y+c)%BB=p at *;rw[BF]at v ⊢;refine⟨?_,?_,rfl,by omega,by omega⟩<;>(split<;>omega)
def A8U(w:World)(b:Nat)(pre post u v:List Nat)(q:Nat)(e:Ending)(N:World):Prop:=
 ∃x:List Nat,e=.returned (.bool (decide (val u<q*val v)))/\x.length=u.length/\BK x/\Win N b pre x post/\Only b w N/\val x+q*val v=val u+BB^u.length*(if val u<q*val v then 1 else 0)
theorem LsRel.close{b:Nat}{pre post u v x:List Nat}{n q cy z:Nat}(h:LsRel w p b pre post u v x n q n cy z)(F:u.length=n)(r:v.length<n)(E:z<=1):z=(if val u<q*val v then 1 else 0)/\val x+q*val v=val u+BB^n*(if val u<q*val v then 1 else 0):=by
 obtain⟨A,B,K,Q,k,C,g⟩:=h;rw[Yar ZbC,Yar ZbC,Yar ZbC,g r,YaH]at k;have G:=Ei B;rw[A]at G
 have key:z=(if val u<q*val v then 1 else 0):=by
  rcases YaB z with c | c
  .subst c;rw[Yaj ZbC]
  .have:z=1:=by omega
   subst this;rw[Yao ZbC]
 exact⟨key,by rw[<-key];exact k⟩
theorem Zw(b n j:Nat)(R:Value)(pre post u v:List Nat)(q P:Nat)(w:World)(L:pre.length=P)(K:Win w b pre u post)(Q:u.length=n)(r:v.length<n)(g:n<=4398046511105)(Z:BK u)(f:BK v)
  (H:∀wr,Only b w wr->Words wr R v) (xa:n<=j) (m:q<BB) :
  Calls prog 312 #[.slice (some ⟨b,P,none⟩) n j,R,.int .u64 q] w (A8U w b pre post u v q):=by
 replace K:=Af K;replace Q:=Af Q;replace Z:=Af Z;replace f:=Af f;replace H:=Af H;replace L:=Af L;replace r:=Af r;unfold BB at m;go_enter func312,ntmps312;go_wp2;go_loopw [7,8,9] (λX N i wr=>∃(k c d:Nat) (x:List Nat),k<=n/\i=.int .i64 k/\X=.int .u64 c/\N=.int .u64 d/\c<4294967296/\d<=1/\Hid (LsRel w wr b pre post u v x n q k c d)) (λ_ _ i _=>n-(intOf i).toNat)
 case atStart=>exact⟨0,0,0,u,Yay _,rfl,rfl,rfl,by omega,by omega,Q.out,Z.out,K.out,Only.refl _ _,by simp[val],λ_ _=>rfl,λh=>by omega⟩
 case round=>
  obtain⟨k,c,d,x,C,rfl,rfl,rfl,U,l,p⟩:=hrel;by_cases O:k<n
  .have t:decide ((k:Int)<n)=true:=by simpa using O
   have S:wr.cell? ⟨b,P+k,none⟩=some (.int .u32 (x.getD k 0:Nat)):=by
    have:=p.out.2.2.1.cell (k:=k) Zee;exact ZiN
   have o:=p.out.2.2.1.frozen (P+k);have W:=Be f.out k;have Y:=Be p.out.2.1 k;generalize M:v.getD k 0=y at *;generalize E:x.getD k 0=z at *;replace M:=Af M;replace E:=Af E;unfold BB at W Y;have F:(q:Int)*y<=18446744065119617025:=by have:=FU m W;omega
   have a:(0:Int)<=(q:Int)*y:=Yct ZbC ZbC;have V:=Af (Aap (q:=q) (y:=y) (c:=c) (z:=z) (d:=d) Y l)
   have xb:Hid ((q*y+c)/BB<4294967296):=by
    have:=FU m W;show _/BB<4294967296;rw[BF];omega
   have G:=Af (p.out.step O M.out E.out (by rw[BF];exact Y) l (cy:=c) (by rw[BF];exact U) rfl);rw[L.out]at G;go_wp2_with fail;refine(Iy R v k y _ (H.out _ p.out.2.2.2.1) M.out).mono ?_;rintro e J ⟨rfl,rfl⟩;clear p;obtain⟨T,I⟩:∃T:Int,T=(q:Int)*y+c:=⟨_,rfl⟩;have xf:T<=18446744073709551615:=by omega
   have xe:0<=T:=by omega
   rw[<-I]at V;replace I:=Af I;have xc:0<=4294967296+(z:Int)-T%4294967296-d:=V.out.2.2.2.1;have xd:4294967296+(z:Int)-T%4294967296-d<=8589934591:=V.out.2.2.2.2;go_upto_region 7 with(fail)
   rw[<-I.out];clear F a;go_wp2;rw[V.out.1,V.out.2.1,V.out.2.2.1];exact⟨⟨k+1,_,_,_,O,by simp,rfl,rfl,xb.out,by split<;>omega,G.out⟩,by simp[intOf];omega⟩
  .obtain rfl:k=n:=by omega
   have t:decide ((k:Int)<k)=false:=by simp
   obtain⟨A,B⟩:=p.out.close Q.out r.out l;replace A:=Af A;replace B:=Af B;rcases(show d=0\/d=1 by omega)with rfl | rfl
   .go_wp2
    go_ret;have s:¬val u<q*val v:=λh=>by have:=A.out;rw[Yao h]at this;omega
    exact Zka
   .go_wp2
    go_ret
    have s:val u<q*val v:=by
     rcases YaI (val u) (q*val v)with h | h
     .exact h
     .have:=A.out;rw[Yaj ZbC]at this;omega
    exact Zka
def RsRel(w wr:World)(b:Nat)(pre post u v x:List Nat)(n k S:Nat):Prop:=
 x.length=n/\BK x/\Win wr b pre x post/\Only b w wr/\val (x.take k)+BB^k*S=val (u.take k)+val (v.take k)/\∀i,k<=i->x.getD i 0=u.getD i 0
theorem RsRel.step{pre post u v x:List Nat}{q k S y z:Nat}(h:RsRel w p n pre post u v x q k S)(C:k<q)(M:v.getD k 0=y)(F:x.getD k 0=z)(L:y<BB)(N:z<BB)(G:S<=1){e:Int}(b:e=((z+y+S)%BB:Nat)) :
  RsRel w (p.setCell ⟨n,pre.length+k,none⟩ (.int .u32 e)) n pre post u v (x.set k ((z+y+S)%BB)) q (k+1) ((z+y+S)/BB)/\(z+y+S)/BB<=1:=ZaB
def A8T(w:World)(b:Nat)(pre post u v:List Nat)(e:Ending)(N:World):Prop:=
 ∃(x:List Nat) (c:Nat),e=.returned (.tuple #[])/\x.length=u.length/\BK x/\Win N b pre x post/\Only b w N/\val x+BB^u.length*c=val u+val v/\c<=1
theorem WX(b n T:Nat)(vv:Value)(pre post u v:List Nat)(P:Nat)(w:World)(L:pre.length=P)(S:Win w b pre u post)(Q:u.length=n)(r:v.length<=n)(g:n<=4398046511105)(j:BK u)(f:BK v)
  (xb:∀wr,Only b w wr->Words wr vv v) (xd:n<=T) :
  Calls prog 313 #[.slice (some ⟨b,P,none⟩) n T,vv] w (A8T w b pre post u v):=by
 replace S:=Af S;replace Q:=Af Q;replace j:=Af j;replace f:=Af f;replace xb:=Af xb;replace L:=Af L;replace r:=Af r;go_enter func313,ntmps313;go_wp2;go_loopw [4,5] (λd i wr=>∃(k c:Nat) (x:List Nat),k<=n/\i=.int .i64 k/\d=.int .u64 c/\c<=1/\Hid (RsRel w wr b pre post u v x n k c)) (λ_ i _=>n-(intOf i).toNat)
 case atStart=>exact⟨0,0,u,Yay _,rfl,rfl,by omega,Q.out,j.out,S.out,Only.refl _ _,by simp[val],λ_ _=>rfl⟩
 case round=>
  obtain⟨k,c,x,B,rfl,rfl,xc,K⟩:=hrel;by_cases O:k<n
  .have R:decide ((k:Int)<n)=true:=by simpa using O
   have Y:wr.cell? ⟨b,P+k,none⟩=some (.int .u32 (x.getD k 0:Nat)):=by
    have:=K.out.2.2.1.cell (k:=k) (by rw[K.out.1];omega);exact ZiN
   have a:=Be f.out k;have h:=Be K.out.2.1 k;generalize M:v.getD k 0=y at *;generalize C:x.getD k 0=z at *;replace M:=Af M;replace C:=Af C;unfold BB at a h;have xn:=Af (xb.out _ K.out.2.2.2.1);have J:¬n<=k:=by omega
   have s:Hid (IntKind.u64.wrap (z:Int)=z):=Af (IntWalk.u64_in _ ZbC);have H:Hid (IntKind.u64.wrap ((z:Int)+y)=(z:Int)+y):=Af (IntWalk.u64_in _ ZbC);have m:Hid (IntKind.u64.wrap ((z:Int)+y+c)=(z:Int)+y+c):=Af (IntWalk.u64_in _ ZbC);go_upto_region 4 with(fail)
   refine wp_region_v ZbG [[], [], [(13, 0), (14, 1)], [(15, 2)], [(16, 3)], [], [], [(18, 5), (19, 6)], [(17, 4), (20, 7)], [], [(21, 8), (22, 9)]] [[], [], [0, 1], [0, 1, 2], [0, 1, 2, 3], [], [], [5, 6], [0, 1, 2, 3, 4, 5, 6, 7], [], [0, 1, 2, 3, 4, 5, 6, 7, 8, 9]]
    [λv _=>v=.slice (some ⟨b,P,none⟩) n T,λv _=>v=.int .i64 (k:Int),λv _=>v=.pointer (some ⟨b,P+k,none⟩),λv _=>v=.int .u32 (z:Int),λv _=>v=.int .u64 (z:Int),λv _=>v=vv,λv _=>v=.int .i64 (k:Int),λv _=>v=.int .u64 (y:Int),λv _=>v=.int .u64 ((z:Int)+y),λv _=>v=.int .u64 (c:Int),λv _=>v=.int .u64 ((z:Int)+y+c)]
    rfl ZbG ZbG ?stab ?steps ?fin
   case stab=>exact .cons (Stab.eq _) (.cons (Stab.eq _) (.cons (Stab.eq _) (.cons (Stab.eq _) (.cons (Stab.eq _) (.cons (Stab.eq _) (.cons (Stab.eq _) (.cons (Stab.eq _) (.cons (Stab.eq _) (.cons (Stab.eq _) (.cons (Stab.eq _) .nil))))))))))
   case steps=>
    refine .cons ?s0 (.cons ?s1 (.cons ?s2 (.cons ?s3 (.cons ?s4 (.cons ?s5 (.cons ?s6 (.cons ?s7 (.cons ?s8 (.cons ?s9 (.cons ?s10 .nil))))))))))
    case s0=>
     intro N q Z B t G p;have V:q (.tmp 0)=.slice (some ⟨b,P,none⟩) n T:=t 0 ZbH;exact AD (by simp[execOp,V,go_sem]) rfl
    case s1=>
     intro N q Z B t G p;exact ZhJ
    case s2=>
     intro N q Z B t G p;have xe:q (.tmp 13)=.slice (some ⟨b,P,none⟩) n T:=B.1 _ rfl;have xo:q (.tmp 14)=.int .i64 (k:Int):=B.2.1 _ rfl;exact AD (by simp[execOp,xe,xo,J,go_sem]) rfl
    case s3=>
     intro N q Z B t G p;have xg:q (.tmp 15)=.pointer (some ⟨b,P+k,none⟩):=B.1 _ rfl;have F:N.cell? ⟨b,P+k,none⟩=some (.int .u32 (z:Int)):=Z.cellv Y;exact AD (by simp[execOp,xg,F,go_sem]) rfl
    case s4=>
     intro N q Z B t G p;have xh:q (.tmp 16)=.int .u32 (z:Int):=B.1 _ rfl;exact AD (by simp[execOp,xh,s.out,go_sem]) rfl
    case s5=>
     intro N q Z B t G p;have W:q (.tmp 1)=vv:=t 1 ZbH;exact AD ZdJ rfl
    case s6=>
     intro N q Z B t G p;exact ZhJ
    case s7=>
     intro N q Z B t G p;have xj:q (.tmp 18)=vv:=B.1 _ rfl;have xk:q (.tmp 19)=.int .i64 (k:Int):=B.2.1 _ rfl;refine CF (by simp[execOp,resolve,invoke,p,xj,xk,go_sem]) (Iy _ v k y _ (xn.out.ext ((Ext.refl _).drew.trans Z)) M.out) ?_;rintro e I ⟨rfl,rfl⟩;exact⟨_,rfl,Ext.refl _,rfl⟩
    case s8=>
     intro N q Z B t G p;have xi:q (.tmp 17)=.int .u64 (z:Int):=B.1 _ rfl;have xf:q (.tmp 20)=.int .u64 (y:Int):=B.2.1 _ rfl;exact AD (by simp[execOp,xi,xf,H.out,go_sem]) rfl
    case s9=>
     intro N q Z B t G p;have X:q (.tmp 4)=.int .u64 (c:Int):=t 4 ZbH;exact AD (by simp[execOp,X,go_sem]) rfl
    case s10=>
     intro N q Z B t G p;have xl:q (.tmp 21)=.int .u64 ((z:Int)+y):=B.1 _ rfl;have xm:q (.tmp 22)=.int .u64 (c:Int):=B.2.1 _ rfl;exact AD (by simp[execOp,xl,xm,m.out,go_sem]) rfl
   case fin=>
    intro gf N Z hF;have U:=hF 10 _ rfl;simp only[Yat,Ybg,Nat.reduceAdd,Ybn,YaW,Ybl,Ycf,FH,Act.put,Ybe,YbB,YbS,U];replace Z:=(Ext.refl wr).drew.trans Z;have xa:RsRel w N b pre post u v x n k c:=⟨K.out.1,K.out.2.1,K.out.2.2.1.ext Z,K.out.2.2.2.1.ext Z,K.out.2.2.2.2.1,K.out.2.2.2.2.2⟩;have xp:=Z.cellv Y;have o:=xa.2.2.1.frozen (P+k);have E:=Af (xa.step O M.out C.out (by rw[BF];exact a) (by rw[BF];exact h) xc (e:=((z:Int)+y+c)%4294967296) ZcU);rw[L.out]at E;clear hF U Z K xa Y xn H m s;go_wp2;exact⟨⟨k+1,(z+y+c)/BB,_,O,by simp,by rw[BF];congr 1,E.out.2,E.out.1⟩,by simp[intOf];omega⟩
  .obtain rfl:k=n:=by omega
   have R:decide ((k:Int)<k)=false:=by simp
   have A:=K.out.2.2.2.2.1;rw[Yar (by rw[K.out.1];omega),Yar (by rw[Q.out];omega),Yar r.out]at A;replace A:=Af A;go_wp2;refine bodyPost_ret (v:=.tuple #[]) (by simp[results,Tryz.results313,go_sem]) rfl ?_;exact⟨x,c,rfl,K.out.1.trans Q.out.symm,K.out.2.1,K.out.2.2.1,K.out.2.2.2.1,by rw[Q.out];exact A.out,xc⟩
end
