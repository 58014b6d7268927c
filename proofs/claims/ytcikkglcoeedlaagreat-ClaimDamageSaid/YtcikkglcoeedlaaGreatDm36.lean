/- Part 36 of the proof of claimDamage_holds. No condition. -/
import Derived.Test.YtcikkglcoeedlaaGreatDm18
import Derived.Test.YtcikkglcoeedlaaGreatDm21
import Derived.Test.YtcikkglcoeedlaaGreatDm24
import Derived.Test.YtcikkglcoeedlaaGreatDm25
import Derived.Test.YtcikkglcoeedlaaGreatDm31
import Derived.Test.YtcikkglcoeedlaaGreatDm35
set_option linter.all false
set_option maxRecDepth 100000
set_option maxHeartbeats 4000000
namespace Go.Proofs.YtcikkglcoeedlaaGreat
open _root_.Go.Proofs.Tryz
variable{l g:List Nat}{n b:Nat}{vC:Operand->AV}
section
open Go.RowKit
abbrev dmA(b:List Nat)(i v:Nat):D:=Eq 5 (b.set i v)
abbrev dmL(b:List Nat)(i:Nat):List Nat:=b.take i++b.drop (i+1)
abbrev dmM(b:List Nat)(i y:Nat):List Nat:=b.take i++[y]++b.drop i
abbrev dmF(b:List Nat)(i y:Nat):List (Nat×AV):=[(2,.d (ex (.int .u8 (y:Nat)))),(7,.d (eB true)),(8,.ptr 1 0),(9,.d (Eq 5 b)),(10,.d (eN i))]
abbrev dm1(b:List Nat)(i y v:Nat):List (Nat×AV):=(11,.d (dmA b i v))::dmF b i y
abbrev dm2(b:List Nat)(i y v:Nat):List (Nat×AV):=(12,.d (Eq 5 (dmL b i)))::dm1 b i y v
abbrev dm3(b:List Nat)(i y v:Nat):List (Nat×AV):=(13,.d (Eq 5 (dmM b i y)))::dm2 b i y v
abbrev dmH(f:Fct):List Ow:=[.dead,.var 48 ((DG f).map .d)]
theorem Kh(b:List Nat):(CA b).flatten=b.map λz=>ex (.int .u8 (z:Nat)):=by
 unfold CA
 induction b with
 |nil=>rfl
 |cons a b u=>rw[Ybb,Ydk,u];rfl
theorem A2H(h:n<l.length):Dd (CA l).flatten n=ex (.int .u8 ((l.getD n 0:Nat):Int)):=by
 rw[Kh];simp[Dd,h]
theorem A6y(h:n<l.length):CellAt (CA l).flatten (n*1) (ex (.int .u8 ((l.getD n 0:Nat):Int))):=by
 rw[Ybz];exact⟨by rw[Kh,Yap];exact h,A2H h⟩
theorem A7U(h:n<l.length):SetAt (CA l).flatten (n*1) [ex (.int .u8 (b:Nat))] (CA (l.set n b)).flatten:=by
 rw[Ybz];refine⟨by rw[Kh,Yap];exact h,?_⟩;rw[Kh,Kh,Yes];unfold TQ;rw[YdH,Yao (by rw[Yap];exact h)];rfl
theorem A4o{P:Program}{hp:List Ow}{dd:Option Tmp}{ty:TypeId}{ps:String}{af:Array Edge}{gd:Option (Nat×Bool)}{T U:TypeId}{x y:Operand}(C:vC x=.d (stD l))(M:vC y=.d (stD g))(E:∀z∈l,z<256)(G:∀z∈g,z<256)(h:¬l=g):Quiet P hp ⟨dd,.binOp .neq T x y U,ty,ps,af,gd⟩ vC (.d (eB true)):=by
 have:=To (P:=P) (hp:=hp) (dd:=dd) (ty:=ty) (ps:=ps) (af:=af) (gd:=gd) (T:=T) (U:=U) C M E G;rwa [Yad h]at this
theorem A14(x:Rw)(a y:Nat)(C:x.Ok)(xc:x.V.length<=9223372036854775807)(t:a<65536)(M:y<256):Abs prog 4 [AP (rwX x),ex (.int .u16 (a:Nat)),ex (.int .u8 (y:Nat))] (eB true):=by
 have cm:=A4u x.T x.T' x.kd C.kd x.L C.L x.V C.V xc;have ok:=A8j x.kd x.L x.V C.V;generalize Sv x.kd x.L x.V=f at cm ok;have V:=ok.n;have F:=ok.pos;have Z:=Tv f ok.z ZbC;rw[ok.enc]at Z;have xl:=ok.read;have p:=Py f;have c6:∀g,FZ g->(EH g).length<=1000000000000->Abs prog 13 [AP (DG f),AP (DG g)] (eB (decide (EH f=EH g))):=λg n I=>Vr f g ok.z.fw n.fw ZbC I;have ce:=WH;obtain⟨b,E⟩:∃b,b=EH f:=⟨_,rfl⟩;rw[<-E]at Z F V xl p
 have c7:∀l g,Byt l->l.length<=40000->KK IY l=some g->Abs prog 13 [AP (DG f),AP (DG g)] (eB (decide (l=b))):=λl g T Q R=>by
  obtain⟨n,e⟩:=A3T ⟨T.lt,Q⟩ R;have:=c6 g n (by rw[e];omega);rw[<-E,e]at this;rwa [show decide (l=b)=decide (b=l)from YcO.2 eq_comm]
 clear c6 E ok;obtain⟨i,J⟩:∃i,i=a%b.length:=⟨_,rfl⟩;have xf:i<b.length:=by rw[J];exact YaR _ F
 have xj:((a:Nat):Int).tmod ((b.length:Nat):Int)=((i:Nat):Int):=by rw[J];exact(Int.ofNat_tmod a b.length).symm
 obtain⟨v1,xa⟩:∃v:Nat,v=(b.getD i 0+1)%256:=⟨_,rfl⟩;have xh:IntKind.u8.wrap (((b.getD i 0:Nat):Int)+1)=((v1:Nat):Int):=by rw[IntKind.wrap_u8',xa];omega
 obtain⟨v,r⟩:∃v:Nat,v=(v1+y%255)%256:=⟨_,rfl⟩;have xi:IntKind.u8.wrap (((v1:Nat):Int)+((y:Nat):Int)%255)=((v:Nat):Int):=by rw[IntKind.wrap_u8',r];omega
 have m:∀k,k<(CA b).length->((CA b).getD k []).length=1:=λk B=>by rw[Cg]at B;rw[Oj B];rfl
 have xd:(CA b).length=b.length:=Cg b;refine Ab func4 λY=>?_;rw[ntmps4];apply Y1;refine Bx ?_;refine Wa<|Y0<|Y1 ?_;refine Wq (AJ (ce)) ?_;refine Wa<|Y0<|Ah<|Y1<|Wm ?_;refine Wq GD ?_;refine Y0<|Cf<|Ys<|Y1 ?_;refine Wq AF ?_;refine Wq (AJ (cm)) ?_;refine Al ?_;refine Sf ?_;refine Y0<|Y1 ?_;refine Wq AF ?_;refine Wq (AJ (Z)) ?_;refine Wa<|Y0<|Ah<|Y1<|Wm ?_;refine Wq BH ?_;refine Wq AL ?_;refine Y0<|Cf<|Ys<|Y1<|Wm ?_;refine Wq A4j ?_;refine Wm ?_;refine Wq BH ?_;refine Wq (KS (r:=((i:Nat):Int)) (ao rfl) (ao rfl) ZbC xj) ?_;refine Wa<|Y0<|Y1 ?_;refine TD (Aa rfl) (Aa rfl) rfl rfl rfl rfl rfl ?_;refine Wm ?_;(refine A7x (r2:=CA b) (ao rfl) rfl m (by rw[xd];exact F) rfl (Aa rfl) (Aa rfl) rfl rfl (by rw[xd];omega) (by rw[xd];omega) rfl ZbI (λg=>rfl) λg c G xb=>?_);refine Wa<|Y0<|Y1<|Wm<|Wm<|Wm<|Wm ?_;refine Wq (A76 (k:=i) (ao rfl) (ao rfl) (Aa rfl) (Aa rfl) ZbC) ?_;refine Wq (A8X (e:=⟨g,5,(CA b).flatten⟩) 2 0 (ao rfl) rfl rfl (Aa rfl) rfl (A6y xf)) ?_;refine Wq (Dn (r:=((v1:Nat):Int)) (ao rfl) (ao rfl) xh) ?_;refine Wm ?_;refine Wq A1n ?_;refine Wq (Dn (r:=((v:Nat):Int)) (ao rfl) (ao rfl) xi) ?_;refine Wq (A76 (k:=i) (ao rfl) (ao rfl) (Aa rfl) (Aa rfl) ZbC) ?_;refine A7w (e:=⟨g,5,(CA b).flatten⟩) 2 0 (ao rfl) (ao rfl) rfl rfl (Aa rfl) (CP rfl) (A7U xf) rfl ?_;refine Y0<|Ah ?_
 refine CT (A28 (R:=Eq 5 (b.set i v)) 2 11 rfl rfl rfl rfl λs K u h=>?_) ?_
 .obtain rfl:u=.slice (some ⟨g,0,none⟩) (CA b).length c:=h
  have H:(CA (b.set i v)).length=(CA b).length:=by rw[Cg,Cg,YbL]
  refine(K _ (Yax.2 rfl)).sl (sz:=1) rfl H G xb (λk B=>?_) λk j B X=>?_
  .rw [Cg]at B
   rw[Oj B];rfl
  .obtain rfl:j=0:=by omega
   have U:k<(b.set i v).length:=by rwa [Cg]at B
   show k*1+0<(CA (b.set i v)).flatten.length/\Dd (CA (b.set i v)).flatten (k*1+0)=_;rw[Ybz,Ybf,A2H U,Oj U];exact⟨by rw[Kh,Yap];exact U,rfl⟩
 refine CT (show AS.le _ (⟨dm1 b i y v,dmH f⟩:AS)from ?_) ?_
 .exact Ac Zfg Zcv
 refine MN 5 1 rfl rfl rfl ?_;refine Ks (λ_=>True) 10 [9,8,7,6,5,4,3,2,1,0] (λff=>(dmH f++[Ow.dead]).set 2 (.row 5 1 (CA (twr ff [(9,dmL b i),(4,b.take i)])))) [(0,4),(4,9)] [.own 2,.d (Eq 5 (b)),.d (eN i),.d (Eq 5 (b.take i)),.own 2,.d (Eq 5 (b)),.d (eN i),.d (eN (i+1)),.d (Eq 5 (b.drop (i+1))),.own 2] (dm1 b i y v) ((58,.own 2)::dm1 b i y v) (Fc ZbG) ?_ rfl trivial ?_ ?_ (λ_=>by kernel_rfl) ZbG ZbG (PJ ?_) ZbG ?_ (λ_=>?_)
 .exact ⟨rfl,rfl,rfl,rfl,rfl,rfl,trivial⟩
 .rfl
 .exact λ_=>rfl
 .refine XSteps.mk ?_
  refine Ds ?_;refine Zgo ?_;refine HA ?_;refine Ds ?_;refine Ds ?_;refine Gb (λff G=>HU (ah rfl) (ah rfl) ZbC) ?_;refine ZhO ?_;exact XSteps.nil
 .exact ⟨rfl,rfl,rfl,rfl,rfl,rfl,rfl,trivial⟩
 refine Wa<|Y0<|Ah ?_
 refine CT (show AS.le _ (⟨dm2 b i y v,dmH f⟩:AS)from ?_) ?_
 .exact Ac (by exact FrLe.cons rfl (Gi rfl (D.le.refl _))<|Yd<|Yd<|Yd<|Yp<|Yd<|Yd<|FrLe.nil) Zcv
 refine MN 5 1 rfl rfl rfl ?_;refine Ks (λ_=>True) 12 [11,10,9,8,7,6,5,4,3,2,1,0] (λff=>(dmH f++[Ow.dead]).set 2 (.row 5 1 (CA (twr ff [(11,dmM b i y),(7,b.take i++[y]),(4,b.take i)])))) [(0,4),(4,7),(7,11)] [.own 2,.d (Eq 5 (b)),.d (eN i),.d (Eq 5 (b.take i)),.own 2,.d (ex (.int .u8 (y:Nat))),.d (Eq 5 ([y])),.own 2,.d (Eq 5 (b)),.d (eN i),.d (Eq 5 (b.drop i)),.own 2] (dm2 b i y v) ((70,.own 2)::dm2 b i y v) (Fc ZbG) ?_ rfl trivial ?_ ?_ (λ_=>by kernel_rfl) ZbG ZbG (PJ ?_) ZbG ?_ (λ_=>?_)
 .exact ⟨rfl,rfl,rfl,rfl,rfl,rfl,rfl,trivial⟩
 .rfl
 .exact λ_=>rfl
 .refine XSteps.mk ?_
  refine Ds ?_;refine Zgo ?_;refine HA ?_;refine Ds ?_;refine Gb (λff G=>ZcX) ?_;refine HA ?_;refine Ds ?_;refine Ds ?_;refine ZhO ?_;exact XSteps.nil
 .exact ZkL
 refine Wa<|Y0<|Ah ?_
 refine CT (show AS.le _ (⟨dm3 b i y v,dmH f⟩:AS)from ?_) ?_
 .exact Ac (by exact FrLe.cons rfl (Gi rfl (D.le.refl _))<|Yd<|Yd<|Yd<|Yd<|Yp<|Yd<|Yd<|FrLe.nil) Zcv
 refine MN 5 1 rfl rfl rfl ?_;refine Ks (λ_=>True) 12 [11,10,9,8,7,6,5,4,3,2,1,0] (λff=>(dmH f++[Ow.dead]).set 2 (.row 5 1 (CA (twr ff [(11,b++[y]),(8,b)])))) [(6,8),(8,11)] [.d (dmA b i v),.d (Eq 5 (dmL b i)),.d (Eq 5 (dmM b i y)),.d (Eq 5 (b)),.d (eN i),.d (Eq 5 (b.take i)),.own 2,.d (Eq 5 (b)),.own 2,.d (ex (.int .u8 (y:Nat))),.d (Eq 5 ([y])),.own 2] (dm3 b i y v) ((71,.d (dmA b i v))::(72,.d (Eq 5 (dmL b i)))::(73,.d (Eq 5 (dmM b i y)))::(76,.d (Eq 5 (b.take i)))::(82,.own 2)::dmF b i y) (Fc ZbG) ?_ rfl trivial ?_ ?_ (λ_=>by kernel_rfl) ZbG ZbG (PJ ?_) ZbG ?_ (λ_=>?_)
 .exact ZkL
 .rfl
 .exact λ_=>rfl
 .refine Ds ?_
  refine Ds ?_;refine Ds ?_;refine Ds ?_;refine Zgo ?_;refine XSteps.mk ?_;refine Ds ?_;refine HA ?_;refine Ds ?_;refine Gb (λff G=>ZcX) ?_;refine HA ?_;exact XSteps.nil
 .exact ⟨rfl,rfl,rfl,rfl,rfl,rfl,rfl,rfl,rfl,rfl,trivial⟩
 refine Bi (show AS.le _ (⟨(71,.d (dmA b i v))::(72,.d (Eq 5 (dmL b i)))::(73,.d (Eq 5 (dmM b i y)))::(76,.d (Eq 5 (b.take i)))::(82,.d (Eq 5 (b++[y])))::dmF b i y,dmH f⟩:AS)from ?_) ?_
 .exact Ac (by exact Yd<|Yd<|Yd<|Yd<|FrLe.cons rfl (Gi rfl (D.le.refl _))<|Yd<|Yd<|Yp<|Yd<|Yd<|FrLe.nil) Zcv
 (refine De rfl rfl ?_;(refine Dc (Aa rfl) (Aa rfl) rfl rfl rfl rfl rfl ?_;(repeat ((first | refine⟨_,Ar (ao rfl),?_⟩ | refine⟨_,Po rfl,?_⟩);refine⟨_,rfl,?_⟩));refine⟨_,rfl,?_⟩));refine Wa<|Y0<|Ah<|Y1<|Wa<|Y0<|AWp.block ?_
 refine CT (show AS.le _ (⟨[(7,.d (eB true)),(8,.ptr 1 0),(9,.d (Eq 5 b)),(10,.d (eN i)),(14,.d (slD 22 1 (([b.set i v,b.take i++b.drop (i+1),b.take i++[y]++b.drop i,b.take i,b++[y]]:List (List Nat)).map λl=>[Eq 5 l]))),(15,.d (eI 0))],[.dead,.var 48 ((DG f).map .d)]⟩:AS)from ?_) ?_
 .exact Ac Zdd Zcv
 have xm:∀z∈[y],z<256:=λz n=>by rw[Yax.1 n];exact M
 have P:∀l∈([b.set i v,b.take i++b.drop (i+1),b.take i++[y]++b.drop i,b.take i,b++[y]]:List (List Nat)),Byt l/\l.length<=40000:=by
  have xp:v<256:=by rw[r];exact YaR _ ZbH
  have xk:B8 (b.take i):=λz n=>p z (Ybh n);have xg:∀j,B8 (b.drop j):=λj z n=>p z (YbZ n);have xo:B8 (b.set i v):=λz n=>(Yew n).elim (p z) λe=>by rw[e];exact xp
  have key:∀l,B8 l->l.length<=40000->Byt l/\l.length<=40000:=λl q A=>⟨⟨q,by omega⟩,A⟩;intro l I;simp only[YaL,YdW,or_false]at I;rcases I with rfl | rfl | rfl | rfl | rfl
  .exact key _ xo (by rw[YbL];omega)
  .exact key _ (B8.app xk (xg _)) (by simp only[Yac,YaO,Ybx];omega)
  .exact key _ (B8.app (B8.app xk xm) (xg _)) (by simp only[Yac,YaO,Ybx,Yck];omega)
  .exact key _ xk (by simp only[YaO];omega)
  .exact key _ (B8.app p xm) (by simp only[Yac,Yck];omega)
 have xn:([b.set i v,b.take i++b.drop (i+1),b.take i++[y]++b.drop i,b.take i,b++[y]]:List (List Nat)).length=5:=rfl;generalize ([b.set i v,b.take i++b.drop (i+1),b.take i++[y]++b.drop i,b.take i,b++[y]]:List (List Nat))=LL at P xn;have L:Byt (b.take i):=⟨λz n=>p z (Ybh n),by rw[YaO];omega⟩
 have ct:Abs prog 11 [Eq 5 (b.take i)] (FA [AP (DG MT),eI 3]):=by
  have N:KK IY (b.take i)=none:=A3U xl xf;have:=Tw 5 (b.take i) L ZgV;have W:PA IY (b.take i)=MT:=by unfold PA;rw[N];rfl
  have o:PD IY (b.take i)=3:=by unfold PD;rw[N];rfl
  have this:Abs prog 11 [Eq 5 (b.take i)] (FA [AP (DG (PA IY (b.take i))),eI (PD IY (b.take i))]):=this;rwa [W,o]at this
 refine AC (λw S=>∃k,k<=5/\w=5-k/\S=⟨[(7,.d (eB true)),(8,.ptr 1 0),(9,.d (Eq 5 b)),(10,.d (eN i)),(14,.d (slD 22 1 (LL.map λl=>[Eq 5 l]))),(15,.d (eN k))],[.dead,.var 48 ((DG f).map .d)]⟩) ?le ⟨0,by omega,rfl,rfl⟩ ?round
 case le=>exact Ac Zdd Zcv
 case round=>
  rintro w _ ⟨k,B,rfl,rfl⟩;by_cases O:k<5
  .obtain ⟨T, Q⟩:=P (LL.getD k default) (by rw [Yaa, Yab ZbC]; exact Ybs _)
   have cd:Abs prog 11 [Eq 5 (LL.getD k default)] (FA [AP (DG (PA IY (LL.getD k default))),eI (PD IY (LL.getD k default))]):=Tw 5 _ T Q;have xe:=T.lt
   cases d:KK IY (LL.getD k default)with
   |none=>
    rw[show PA IY (LL.getD k default)=MT by unfold PA;rw[d];rfl,show PD IY (LL.getD k default)=3 by unfold PD;rw[d];rfl]at cd;refine Go ?_;refine Dy 25 ?_;refine ZfU ?_;exact ZgS
   |some g=>
    have c8:=c7 _ g T Q d;rw[show PA IY (LL.getD k default)=g by unfold PA;rw[d];rfl,show PD IY (LL.getD k default)=0 by unfold PD;rw[d];rfl]at cd;by_cases xd:LL.getD k default=b
    .rw [Yal xd]at c8
     refine Go ?_;refine Dy 25 ?_;refine ZiY ?_;refine DA ?_;refine Zjo ?_;refine⟨_,AZ rfl rfl (PQ (ah rfl) (ah rfl) xe p xd),?_⟩;refine ZfU ?_;exact ZgS
    .rw [Yad xd]at c8
     refine Go ?_;refine Dy 25 ?_;refine ZiY ?_;refine DA ?_;refine Zjo ?_;refine⟨_,AZ rfl rfl (A4o (ah rfl) (ah rfl) xe p xd),?_⟩;refine ZfU ?_;exact ZgS
  .obtain rfl:k=5:=by omega
   refine Ah<|Y1<|Wm<|Wm ?_;refine Wq BH ?_;refine Wq AL ?_;refine Y0<|Cf<|Cc<|Bz<|BM<|BE<|Yn<|Y1<|Wm<|Wm ?_;refine Wq (Ic (l:=b) (f:=λz:Nat=>[ex (.int .u8 (z:Nat))]) rfl (ao rfl) (Aa rfl) (Aa rfl) rfl ZbC) ?_;refine Wq (AJ (ct)) ?_;refine Wm ?_;refine Wq A72 ?_;refine Wq A72 ?_;refine Al ?_;refine Sf ?_;refine Wa<|Y0<|Y1<|Wm ?_;refine Wq Bc ?_;refine Wm ?_;refine Wg AQ ?_;refine Wq Cw ?_;refine Wa<|Y0<|BR ?_
   exact Yf
open Go.ChangeAt Go.ChangeShapes Go.Deep Go.Joins Go.WideShapes
theorem Nt(os:Os)(xl:os.Started)(H:Type)(enc:TypeId×Value->H) :
  ReturnsInHanded {} Tryz.checked os 4 .any (Rows.claimDamageSpec.pre6 enc prog Tryz.f4 Rows.claimDamageRow.domain false) (Rows.claimDamageSpec.post enc prog Tryz.f4 false true false false):=by
 refine returnsInHanded_of_change (C := Tryz.checked) own xl ZbG func4
  (ChangeSpec.witness6 (enc:=enc) (C:=Tryz.checked) false ⟨#[],#[.agg #[.int .u8 0,.slice none 0 0,.slice none 0 0],.int .u16 0,.int .u8 0],[]⟩ 8 ZbG ZbG ZbG ZbG) ?_
 intro W base args S gs xr xn O xt _;have Iw:∀(j:Nat) t v,Tryz.f4.params[j]? = some t->args[j]? = some v->Value.okWide prog W .any base t v:=xn;have xi:=O;obtain⟨p,q,xm,N,rfl,s,xa⟩:=O;have Z:DataW.TrodAll enc prog W 0 (λ_=>true) true Tryz.f4.params.toList args.toList S p:=xm;rw[Tryz.params4]at Z Iw;obtain⟨T,xu,d0,xd,p0,q0,xg,rfl,rfl,c,r0⟩:=trodAll_cons Z;obtain⟨v1,vs1,y,xe,g,X,rfl,rfl,rfl,A,V⟩:=trodAll_cons r0;obtain⟨v2,vs2,z,xs,i,Y,rfl,rfl,rfl,B,Q⟩:=trodAll_cons V;obtain⟨rfl,rfl,rfl⟩:=trodAll_nil Q;obtain rfl:args=#[T,v1,v2]:=by cases args;simp_all
 obtain⟨rfl,rfl⟩:=trodVars_none N;have k0:=c;have xo:∀x∈p0,x.block<W.heap.size:=by obtain⟨m,L⟩:=k0;exact ZkM
 have a:=A;have xp:∀x∈g,x.block<W.heap.size:=by obtain⟨m,L⟩:=a;exact ZkM
 have k2:=B;have xq:∀x∈i,x.block<W.heap.size:=by obtain⟨m,L⟩:=k2;exact ZkM
 obtain⟨u,xc,n⟩:∃x:Rw,x.Ok/\(AP (rwX x)).rel (GS.all W) T:=by
  obtain⟨f,rfl,_⟩:=okWide_struct underlying58 (Iw 0 58 T rfl rfl);obtain⟨xf,K⟩:=c;obtain⟨S,⟨x,E,rfl⟩,R⟩:=A5M _ _ _ _ _ _ _ _ _ K;exact⟨x,E,R.agg rfl λb k h=>h⟩
 obtain⟨d,rfl,U,_,xj⟩:=open_int underlying59 (Iw 1 59 v1 rfl rfl) A;obtain⟨w,rfl⟩:∃m:Nat,d=(m:Int):=⟨d.toNat,by have:=bounds_u16 xj;omega⟩;have F:(ex (.int .u16 (w:Nat))).rel (GS.all W) (.int .u16 (w:Nat)):=rfl;obtain⟨l,rfl,xb,_,xk⟩:=open_int underlying5 (Iw 2 5 v2 rfl rfl) B;obtain⟨P,rfl⟩:∃m:Nat,l=(m:Int):=⟨l.toNat,by have:=bounds_u8 xk;omega⟩;have o:(ex (.int .u8 (P:Nat))).rel (GS.all W) (.int .u8 (P:Nat)):=rfl;clear xm xn;refine((A14 u w P xc (A9Y n) (by have:=bounds_u16 xj;omega) (by have:=bounds_u8 xk;omega)).2 (GS.all W) [T,(.int .u16 ((w:Nat):Int)),(.int .u8 ((P:Nat):Int))] (A4w W) rfl (λk C=>?_)).mono λe W' ⟨v,G,J,M,I,r⟩=>?_
 .match k,C with
  |0,_=>exact n
  |1,_=>exact F
  |2,_=>exact o
 obtain rfl:v=.bool true:=r;subst G;have xh:Below W.heap.size W W':=M▸I.ext;exact⟨_,rfl,_,_,_,[],_,[],xi,trodAll_mk1 (shut_bool underlying4 _),(trodAll_cons_mk (Below.trod WB ZbG (YcY ZbG) k0 xh xo) (trodAll_cons_mk (Below.trod WB ZbG (YcY ZbG) a xh xp) (trodAll_cons_mk (Below.trod WB ZbG (YcY ZbG) k2 xh xq) trodAll_mk0))),rfl,xh.frame _,λh=>by cases h⟩
theorem TX:Tryz.prog.unfollowed 4=Rows.claimDamageRow.unfollowed:=by kernel_rfl
theorem TY:Tryz.prog.recurses 4=Rows.claimDamageRow.recurses:=by kernel_rfl
theorem Ue:Tryz.prog.inPlace 4=Rows.claimDamageRow.inPlace:=by kernel_rfl
theorem Ua:Tryz.prog.varsNamed 4=Rows.claimDamageRow.named:=by kernel_rfl
theorem Uc:laidOutB prog=true:=by kernel_rfl
theorem Ub:mapsRowed prog=true:=by kernel_rfl
theorem Ud:joinedFacts prog 4 Tryz.f4 Rows.claimDamageSpec Rows.claimDamageRow=true:=by
 unfold joinedFacts;rw[TX,TY,Ue,Ua,Uc,Ub]
 kernel_rfl
theorem PF:Rows.claimDamageRow.holds Tryz.pinned (OpenSpec.ofChange Rows.claimDamageSpec):=
 OpenClaim.holds_of_wide 4 Tryz.f4 rfl rfl rfl rfl rfl rfl rfl ⟨rfl, rfl, rfl, rfl, rfl⟩ rfl rfl rfl rfl rfl ZbG func4 Ud
  (YcY ZbG) (by unfold Func.isWrapper;first | (rw[Yao (by decide +kernel)];kernel_rfl) | (rw[Yaj (by decide +kernel)];exact⟨rfl,rfl⟩))
  (λos e H F _=>Nt os e H F)
theorem claimDamage_holds:Rows.ClaimDamageSaid:=PF
#print axioms claimDamage_holds
end
