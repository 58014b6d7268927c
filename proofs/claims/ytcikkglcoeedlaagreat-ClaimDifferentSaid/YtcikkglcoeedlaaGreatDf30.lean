/- Part 30. No condition. -/
import Derived.Test.YtcikkglcoeedlaaGreatDf19
import Derived.Test.YtcikkglcoeedlaaGreatDf20
import Derived.Test.YtcikkglcoeedlaaGreatDf21
import Derived.Test.YtcikkglcoeedlaaGreatDf28
import Derived.Test.YtcikkglcoeedlaaGreatDf29
set_option linter.all false
set_option maxRecDepth 100000
set_option maxHeartbeats 2000000
namespace Go.Proofs.YtcikkglcoeedlaaGreat
open _root_.Go.Proofs.Tryz
variable{o:Bool}{a:Int}{vL:List (List Tm)}{vq:List Int}{vb:List Tm}{n:Nat}{vD:Rat}{vK:Tm}
section
open Go.RowKit
def sqL(Q:List (List Tm))(V:List Int)(k:Nat):List (RQ×List RTm):=(List.range k).map λi=>(LK (Rat.divInt (AR V i) 5),(pP Q i).map DK)
theorem A4L(Q:List (List Tm))(V:List Int)(k:Nat):slD 184 5 (Vl Q V k)=Vk (sqL Q V k):=by
 unfold Vk Vl sqL;rw[Yce];congr 1
 exact YaY λi _=>by
  show DB _++[BP _]=Jv (_,_);unfold Jv;rw[Jd];rfl
def atL(V:List Int)(k:Nat):List (RQ×RQ):=(List.range k).map λi=>Eh V i 0
theorem A6b(V:List Int)(k:Nat):slD 129 8 (Wu V k)=VS (atL V k):=by
 unfold VS Wu atL;rw[Yce];rfl
def ptF(V:List Int)(k i:Nat):RQ:=if i=0 then LK ((AR V k:Int):Rat)else if i<8 then zQ else default
def ptL(V:List Int)(k:Nat):List (Nat->RQ):=(List.range k).map (ptF V)
theorem A9j(V:List Int)(k:Nat):slD 187 32 (pxR V k)=A0c (ptL V k):=by
 unfold A0c pxR ptL;rw[Yce];congr 1
def bxL(V:List Int)(k:Nat):List (Nat->RQ×RQ):=(List.range k).map λi=>Eh V (i+1)
theorem A9Y(V:List Int)(k:Nat):slD 131 64 (bxR V k)=FX (bxL V k):=by
 unfold FX bxR bxL;rw[Yce];rfl
abbrev ZI:Rsl:=⟨λ_=>0,[],λ_=>[]⟩
def rsM(V:List Int):Rsl:=⟨λi=>if i=0 then 1 else if i=1 then AR V 5 else 0,(KA V 3).map LK,λi=>if i=1 then(KA V 2).map LK else[]⟩
def tQ(L:List (List (List Tm))):List (List (List RTm)):=L.map rQ
def DL(z:Int)(Q:List (List Tm))(V:List Int)(m c:Nat):Crt:=
 if z=1 then⟨0,rQ (pQ Q 1 m),[],[],[],[],[],ZI,[],[],[],[]⟩
 else if z=3 then⟨((gN V+1:Nat):Int),rQ (pQ Q 1 m),[],[],[],[],[],ZI,[],[],[],[]⟩
 else if z=9\/z=10 then⟨0,rQ (pQ Q 1 m),[],[],[],[],[],ZI,[],sqL Q V (gN V),[],[]⟩
 else if z=11 then⟨0,[],[],[],tQ (Gw Q m (1+c*(c+1)/2)),[],[],ZI,[],[],[],[]⟩
 else if z=12 then⟨0,[],rQ (pQ Q 0 (gN V)),CS (gN V),tQ (Gw Q m (gN V)),[],[],ZI,[],[],[],[]⟩
 else if z=13 then⟨0,[],[],[],[],[],[],ZI,[],[],ptL V (gN V),bxL V (gN V)⟩
 else if z=7\/z=8 then⟨0,[],rQ (pQ Q 0 (gN V)),CS (gN V),tQ (Gw Q m (gN V)),tQ (Gw Q (gN V) m),tQ (Gw Q (gN V) (gN V*(gN V-1)/2)),rsM V,atL V (gN V),[],[],[]⟩
 else⟨0,[],rQ (pQ Q 0 (gN V)),CS (gN V),tQ (Gw Q m (gN V)),tQ (Gw Q (gN V) m),tQ (Gw Q (gN V) (gN V*(gN V-1)/2)),ZI,[],[],[],[]⟩
theorem Wi(e:Crt):DE e=[eI e.n,Ic e.cof,Ic e.g,Du e.o,Tu e.c,Tu e.q,Tu e.s,eI (e.r.l 0),eI (e.r.l 1),eI (e.r.l 2),eI (e.r.l 3),eI (e.r.l 4),eI (e.r.l 5),eI (e.r.l 6),eI (e.r.l 7),GY e.r.q,GY (e.r.r 0),GY (e.r.r 1),GY (e.r.r 2),GY (e.r.r 3),GY (e.r.r 4),GY (e.r.r 5),GY (e.r.r 6),GY (e.r.r 7),VS e.a,Vk e.sq,A0c e.x,FX e.b]:=rfl
theorem WW(T o:Nat)(q:Nat)(L:List (Nat×List (Nat->Int)))(m:Tx L)(V:List Int)(A:I8 V)(I:V.length<=9223372036854775807)(G:Int)(E:List (List Tm))(Q:E.length<=12)(F C B S R:D)(n d r:Int)(p:List (List Tm))(b:p.length<=12)(z:Int):Abs prog 49 [AQ (Hh T o q L V),AQ [eI G,Ba E,F],AQ [eI z,C,eI n,eI d,eI r,B,Ba p,S,R]] (AQ (DE (DL z (AZ L) V E.length p.length))):=by
 rw[Wi];unfold DL;by_cases y:z=1
 .rw [Yan y,y]
  refine(A4b T o q L m V A I G E Q F C B S R n d r p b).le (Ce ?_)
  repeat (first | exact DsLe.nil | refine DsLe.cons (Ae (EZ _)) ?_ | refine DsLe.cons AM ?_ | refine DsLe.cons (D.le.refl _) ?_)
 rw[Yai y];by_cases s:z=3
 .rw [Yan s,s]
  refine(A4a T o q L m V A I G E Q F C B S R n d r p b).le (Ce ?_)
  repeat (first | exact DsLe.nil | refine DsLe.cons (Ae (EZ _)) ?_ | refine DsLe.cons AM ?_ | refine DsLe.cons (D.le.refl _) ?_)
 rw[Yai s];by_cases J:z=9\/z=10
 .rw [Yan J]
  rcases J with J | J
  .refine (A47 T o q L m V A I G E Q F C B S R n d r p b z J).le (Ce ?_)
   repeat (first | exact DsLe.nil | refine DsLe.cons (Ae (EZ _)) ?_ | refine DsLe.cons (Ae (A4L _ _ _)) ?_ | refine DsLe.cons AM ?_ | refine DsLe.cons (D.le.refl _) ?_)
  .refine (A1y T o q L m V A I G E Q F C B S R n d r p b z J).le (Ce ?_)
   repeat (first | exact DsLe.nil | refine DsLe.cons (Ae (EZ _)) ?_ | refine DsLe.cons (Ae (A4L _ _ _)) ?_ | refine DsLe.cons AM ?_ | refine DsLe.cons (D.le.refl _) ?_)
 rw[Yai J];by_cases c:z=11
 .rw [Yan c,c]
  refine(A1x T o q L m V A I G E Q F C B S R n d r p b).le (Ce ?_)
  repeat (first | exact DsLe.nil | refine DsLe.cons (Ae (Ng _)) ?_ | refine DsLe.cons AM ?_ | refine DsLe.cons (D.le.refl _) ?_)
 rw[Yai c];by_cases j:z=12
 .rw [Yan j,j]
  refine(A1w T o q L m V A I G E Q F C B S R n d r p b).le (Ce ?_)
  repeat (first | exact DsLe.nil | refine DsLe.cons (Ae (EZ _)) ?_ | refine DsLe.cons (Ae (Ng _)) ?_ | refine DsLe.cons AM ?_ | refine DsLe.cons (D.le.refl _) ?_)
 rw[Yai j];by_cases w:z=13
 .rw [Yan w,w]
  refine(A1v T o q L m V A I G E Q F C B S R n d r p b).le (Ce ?_)
  repeat (first | exact DsLe.nil | refine DsLe.cons (Ae (A9j _ _)) ?_ | refine DsLe.cons (Ae (A9Y _ _)) ?_ | refine DsLe.cons AM ?_ | refine DsLe.cons (D.le.refl _) ?_)
 rw[Yai w];by_cases U:z=7\/z=8
 .rw [Yan U]
  rcases U with U | U
  .refine (A49 T o q L m V A I G E Q F C B S R n d r p b z U).le (Ce ?_)
   repeat (first | exact DsLe.nil | refine DsLe.cons (Ae (EZ _)) ?_ | refine DsLe.cons (Ae (Ng _)) ?_ | refine DsLe.cons (Ae (A52 _)) ?_ | refine DsLe.cons (Ae (A6b _ _)) ?_ | refine DsLe.cons AM ?_ | refine DsLe.cons (D.le.refl _) ?_)
  .refine (A48 T o q L m V A I G E Q F C B S R n d r p b z U).le (Ce ?_)
   repeat (first | exact DsLe.nil | refine DsLe.cons (Ae (EZ _)) ?_ | refine DsLe.cons (Ae (Ng _)) ?_ | refine DsLe.cons (Ae (A52 _)) ?_ | refine DsLe.cons (Ae (A6b _ _)) ?_ | refine DsLe.cons AM ?_ | refine DsLe.cons (D.le.refl _) ?_)
 rw[Yai U];have f:z≠7/\z≠8:=⟨λh=>U (.inl h),λh=>U (.inr h)⟩;have W:z≠9/\z≠10:=⟨λh=>J (.inl h),λh=>J (.inr h)⟩;refine(A46 T o q L m V A I G E Q F C B S R n d r p b z y s f.1 f.2 W.1 W.2 c j w).le (Ce ?_)
 repeat (first | exact DsLe.nil | refine DsLe.cons (Ae (EZ _)) ?_ | refine DsLe.cons (Ae (Ng _)) ?_ | refine DsLe.cons AM ?_ | refine DsLe.cons (D.le.refl _) ?_)
noncomputable def Yb (q:Nat) (L:List (Nat×List (Nat->Int))) (V:List Int):Fct:=
 ⟨GM L V,Cw q L V,DL (Cw q L V).kind (AZ L) V (GM L V).e.length (Cw q L V).l.length⟩
theorem A2c(A:Nat)(L:List (Nat×List (Nat->Int)))(V:List Int):(Cw A L V).l.length<=3:=by
 have q:(AR V 1%8%4).toNat<=3:=by omega
 unfold Cw
 repeat' split
 all_goals first | exact Yaw _ | (simp only[rQ,pQ,Yap,Yew];exact q)
theorem XF(L:List (Nat×List (Nat->Int))):(AZ L).length<=6:=by
 exact ZhV
theorem A6G(T S:Nat)(M:Nat)(Y:M<256)(L:List (Nat×List (Nat->Int)))(m:Tx L)(V:List Int)(O:I8 V)(I:V.length<=9223372036854775807):Abs prog 15 [AQ (Hh T S M L V)] (AQ (Eb (Yb M L V))):=by
 have p:=WV T S M L m V O I;have N:=TQ T S M Y L m V O I;have W:=A2c M L V;obtain⟨kind,P,n,d,r,o,Q,s,b,C,f⟩:=Se M L V O;rw[C]at N W;rw[Gn]at N
 have i:Q.length<=12:=by
  have K:Q.length<=3:=by simpa[rQ]using W
  omega
 obtain⟨E,G⟩:∃E,E=Ju false ((AZ L).take (nK L V)):=⟨_,rfl⟩;obtain⟨F,hF⟩:∃F,F=Ju true (((AZ L).take (min (AZ L).length (nK L V+1))).drop (nK L V)):=⟨_,rfl⟩;have B:Ec (GM L V)=[eI 2,Ba E,Ba F]:=by rw[G,hF,EZ,EZ];rfl
 have Z:E.length<=12:=by
  have q:=KI false ((AZ L).take (nK L V)) _ (Yah _);have A:=XF L;have K:((AZ L).take (nK L V)).length<=6:=ZgP
  rw[G];exact Yat q (Yat K ZbL)
 rw[B]at p;have X:=WW T S M L m V O I 2 E Z (Ba F) (BP P) (Du o) (Nw s) (FX b) n d r Q i kind
 have a:DL (Cw M L V).kind (AZ L) V (GM L V).e.length (Cw M L V).l.length=DL kind (AZ L) V E.length Q.length:=by
  rw[C,show(GM L V).e.length=E.length by rw[G];simp[GM,rQ]];simp[rQ]
 have J:Eb (Yb M L V)=[eI 2,Ba E,Ba F]++([eI kind,BP P,eI n,eI d,eI r,Du o,Ba Q,Nw s,FX b]++DE (DL kind (AZ L) V E.length Q.length)):=by
  unfold Yb Eb
  dsimp only
  rw[a,B,C,Gn]
 rw[J];generalize DL kind (AZ L) V E.length Q.length=e at X ⊢;clear J a C B G hF;refine Ab func15 λw=>?_;rw[ntmps15];apply Y1;refine Bx ?_;refine Al ?_;refine Y0<|Ah ?_
 refine Dy 6 ?_;refine Xq AD ?_;refine Xq (AJ (p)) ?_;refine Xq AD ?_;refine Xq (AJ (N)) ?_;refine Xn ?_;refine Xn ?_;refine⟨_,rfl,?_⟩;refine Sf ?_;refine Sf ?_;refine Y0<|Ah ?_
 refine Dy 7 ?_;refine Xq AD ?_;refine Xq AD ?_;refine Xq AD ?_;refine Xq AD ?_;refine Xq AD ?_;refine Xq (AJ (X)) ?_;(refine Hq rfl ?_;refine AI (Aa rfl) rfl rfl rfl ?_;(repeat ((first | refine⟨_,Az (ah rfl),?_⟩ | refine⟨_,Po rfl,?_⟩);refine⟨_,rfl,?_⟩));refine⟨_,rfl,?_⟩;refine⟨_,rfl,?_⟩);refine⟨_,rfl,?_⟩;refine Sf ?_;refine Y0<|BV ?_
 exact Zka
structure MP(N:Nat)(P:List Tm):Prop where
 b:PB P 3 N 2
 z:∀t∈P,∀i,2<=i->t.m i=0
theorem MP.nil{N:Nat}:MP N []:=⟨PB.nil,λt h=>ZdE⟩
theorem A4S(h:vK∈XA vD vb):∃s∈vb,s.m=vK.m:=by
 unfold XA at h;split at h
 .cases h
 .obtain ⟨s,Z,rfl⟩:=YaA.1 h
  exact⟨s,Z,(Hk _).symm⟩
theorem A5t(X:List (Nat->Int)):∀(A:List Tm),(∀t∈A,∀i,2<=i->t.m i=0)->∀t∈X.foldl (λa r=>Jg a (A0a 2 2 r)) A,∀i,2<=i->t.m i=0:=by
 induction X with
 |nil=>intro A h;exact h
 |cons r X v=>
  intro A h;refine v _ λt L i J=>?_;rcases Ig _ _ t L with⟨s,Z,e⟩ | ⟨s,Z,e⟩
  .rw [<-e];exact h s Z i J
  .rw [<-e]
   obtain⟨u,S,y⟩:=A4S Z;rw[<-y];simp only[Yaz]at S;rw[S];show SC 2 r 2 i=0;unfold SC;rw[Yai ZbG]
theorem A8o{L:List (Nat×List (Nat->Int))}(h:vb∈AZ L):MP 9 vb:=by
 have E:=Vy L vb h;obtain⟨x,_,rfl⟩:=YaA.1 h;exact⟨E,A5t _ [] λt h=>ZdE⟩
theorem MP.nrm(h:MP 9 vb):MP 37 (DZ vb):=by
 have n:=Ny vb
 have u:∀t∈DZ vb,∃s∈vb,s.m=t.m:=λt L=>by
  obtain⟨k,B,rfl⟩:=List.mem_iff_getElem.1 L;have M:k<vb.length:=by rwa [n]at B
  have q:=A5m vb M;have A:Bv (DZ vb) k=(DZ vb)[k]:=by simp[Bv,Yab,B]
  rw[A]at q;rw[q];exact⟨Bv vb k,by simp[Bv,Yab,M],rfl⟩
 refine⟨?_,λt L i J=>?_⟩
 .unfold DZ
  split
  .exact PB.nil
  .rename_i d
   have I:=h.b.len;have W:vb.length*9<=3*9:=YaX I (Yah _);have:=A4D (t:=⟨HP vb,λ_=>0⟩) (d0:=0) h.b (VK vb h.b.can ZbG) ((Nz vb h.b.sz h.b.can ZbG).mono (show 1+vb.length*9<=28 by omega)) λi _=>⟨YbM _,YbM _⟩;rwa [Int.zero_add]at this
 .obtain ⟨s,Z,e⟩:=u t L
  rw[<-e];exact h.z s Z i J
theorem MP.use(h:MP n vb):OC vb<4:=by
 refine Nat.lt_of_not_le λF=>?_;obtain⟨i,J,E⟩:=Nat.exists_ge_and_testBit_of_ge_two_pow (n:=2) ZeY;by_cases y:i<8
 .obtain ⟨t,L,G⟩:=(A4u vb i y).1 E
  rw[h.z t L i J]at G;omega
 .have q:=Ve vb
  have A:=Nat.testBit_lt_two_pow (x:=OC vb) (i:=i) (Yaq q (Ybn (n:=2) ZbL (show 8<=i by omega)));rw[A]at E;cases E
theorem A5V(e:-1<=a)(h:∀t∈vb,CV t.m 8<=a):HU vb<=a:=by
 unfold HU
 have:∀(vb:List Tm) (A:Int),A<=a->(∀t∈vb,CV t.m 8<=a)->vb.foldl (λa t=>max a (CV t.m 8)) A<=a:=by
  intro vb
  induction vb with
  |nil=>intro A l _;exact l
  |cons t vb v=>
   intro A l h;have q:=h t (Ybp ..);exact v _ (by show max A (CV t.m 8)<=a;omega) λu S=>h u (Ybo _ S)
 exact this vb _ e h
theorem MP.deg (h : MP n vb) : HU vb ≤ 4 := A5V ZbL fun t L => by
 have d:=h.b.ex t L 0 ZbL;have q:=h.b.ex t L 1 ZbL;have A:=h.z t L;have e:CV t.m 8=0+t.m 0+t.m 1+t.m 2+t.m 3+t.m 4+t.m 5+t.m 6+t.m 7:=rfl;rw[e,A 2 ZbL,A 3 ZbL,A 4 ZbL,A 5 ZbL,A 6 ZbL,A 7 ZbL];omega
theorem MP.bd{N:Nat}{P:List Tm}(h:MP N P)(e:4<=a):Va 2 a (P.map DK):=by
 refine⟨Xk h.b.can (h.b.ex.mono (YbM _) ZbL),?_,?_⟩
 .rw [KG];exact h.use
 .rw [KG];exact Yel h.deg e
theorem MP.pz(h:MP n vb)(N:n<=10000):PZ (vb.map DK):=⟨λr V=>by
 obtain⟨t,L,rfl⟩:=YaA.1 V;have Z:=h.b.sz t L;exact⟨⟨BG _,Yat Z.1 N⟩,⟨BG _,Yat Z.2 N⟩⟩,by rw[Yap];have:=h.b.len;omega⟩
theorem MP.po(h:MP n vb)(N:n<=10000):PoB (vb.map DK):=⟨λr V=>by
 obtain⟨t,L,rfl⟩:=YaA.1 V;have Z:=h.b.sz t L;refine⟨⟨BG _,?_⟩,⟨BG _,?_⟩,λi J=>?_,λi J=>?_⟩
 .exact YbW Z.1 ZbG
 .exact YbW Z.2 ZbG
 .have:=h.b.ex t L i J
  show 0<=t.m i/\t.m i<=65535;omega
 .exact h.z t L i ZbG,by rw[Yap];have:=h.b.len;omega⟩
theorem VO(h:n<128):(BA n).length=1:=by
 rw[BA,Yan h];rfl
theorem QR{F:Type}{e:F->List Nat}{B:Nat}:∀{l:List F},(∀x∈l,(e x).length<=B)->(l.flatMap e).length<=l.length*B
 |[],_=>by simp
 |x::l,h=>by
  rw[YcE,Yaa,Yay,YcZ];have q:=h x (Ybp ..);have A:=QR (l:=l) λy N=>h y (Ybo _ N);omega
theorem QP{b:Bool}{l:List Nat}{N:Nat}(h:l.length<=N)(q:N<=60):(Hp b l).length<=1+4*N:=by
 unfold Hp;rw[Yaa,VO (by split<;>omega)];have:=QR (e:=CA) (B:=4) (l:=l) λx _=>by simp[CA]
 omega
theorem A7k{q:RQ}(A:q.l.length<=n)(B:q.l'.length<=n)(N:n<=60):(CG q).length<=2+8*n:=by
 unfold CG;rw[Yaa];have:=QP (b:=q.b) A N;have:=QP (b:=q.b') B N;omega
theorem LM{F:Type}{e:F->List Nat}{f:Nat->F}{B:Nat}(h:∀i,i<8->(e (f i)).length<=B):(Jx e f).length<=8*B:=by
 unfold Jx;have:=QR (e:=λi=>e (f i)) (B:=B) (l:=List.range 8) λi J=>h i (Ybd.1 J);rwa [Yew]at this
theorem FD{F:Type}{e:F->List Nat}{B:Nat}{l:List F}(I:l.length<128)(h:∀x∈l,(e x).length<=B):(Bt e l).length<=1+l.length*B:=by
 unfold Bt;rw[Yaa,VO I];have:=QR h;omega
theorem MP.len{N:Nat}{P:List Tm}(h:MP N P)(B:N<=60):(Cp (P.map DK)).length<=31+24*N:=by
 have I:=h.b.len
 have q := FD (e := Ef) (B := 10 + 8 * N) (l := P.map DK) (by rw [Yap]; omega) fun r V => by
  obtain⟨t,L,rfl⟩:=YaA.1 V;have Z:=h.b.sz t L;unfold Ef;rw[Yaa,Yaa];have K:=QP (b:=(DK t).b) (l:=(DK t).l) (N:=N) Z.1 B;have Y:=QP (b:=(DK t).b') (l:=(DK t).l') (N:=N) Z.2 B
  have W:=LM (e:=λz=>BA (u64 z)) (f:=(DK t).m) (B:=1) λi J=>by
   have C:=h.b.ex t L i J;show(BA (u64 (t.m i))).length<=1;rw[VO (by unfold u64;omega)];exact Yah _
  omega
 have A:(P.map DK).length*(10+8*N)<=3*(10+8*N):=YaX (by rw[Yap];exact I) (Yah _);show(Bt Ef (P.map DK)).length<=_;omega
def ovC(R:List (Nat->Int)):Bool:=Nat.ble R.length 24&&(List.range R.length).all λk=>(List.range 8).all λj=>decide (-1000<=FT R k j)&&decide (FT R k j<=1000)&&(!decide (FT R k j<0)||seenTo R k j)
theorem A9m{R:List (Nat->Int)}(h:ovC R=true):OValid R:=by
 unfold ovC at h;simp only[Yam,YdX]at h;refine⟨h.1,λk j B W=>?_⟩;have q:=Yaj.1 (Yaj.1 h.2 k (Ybd.2 B)) j (Ybd.2 W);simp only[Yam,Yba,YaZ,Bool.not_eq_true',Ydy]at q;exact⟨q.1.1,q.1.2,λA=>q.2.resolve_left λh=>h A⟩
theorem A9a:∀z,z<256->ovC (CS z)=true:=ZjL
theorem Vn{z:Nat}(h:z<256):OValid (CS z):=A9m (A9a z h)
theorem A0g{m i:Nat}(x:m<256)(J:8<=i):BW m i=0:=by
 unfold BW;have A:2^8<=2^i:=Ybn ZbL J
 have q:m >>> i=0:=by
  rw[Yeq];exact YbJ ZbG
 show((m >>> i%2:Nat):Int)=0;simp[q]
theorem A7B{k i:Nat}(h:i≠k):Ea k i=0:=by simp[Ea,h]
theorem Uk:∀(n:Nat),n<=7->∀r∈Gf n,∀i,8<=i->r i=0
 |0,_,r,V,_,_=>by simp[Gf]at V
 |n+1,h,r,V,i,J=>by
  unfold Gf at V;rcases YaM.1 V with rfl | V
  .exact A7B ZbG
  .exact Uk n ZbG r V i J
theorem Ul:∀r∈revRows,∀i,8<=i->r i=0:=λr V i J=>by
 unfold revRows at V;rcases YaM.1 V with rfl | V
 .exact A0g ZbL J
 .exact Uk 7 (Yah _) r V i J
theorem A4Z(h:vq.length<=8)(J:8<=n):A50 vq n=0:=by
 unfold A50;rw[Yab,YbE ZbG];rfl
theorem A99:∀r∈CS n,∀i,8<=i->r i=0:=λr V i J=>by
 unfold CS at V;split at V
 .cases V
 split at V
 .rw [Yaz.1 V];exact A0g ZbL J
 split at V
 .exact Ul r V i J
 split at V
 .rw [Yaz.1 V];exact A4Z ZbL J
 split at V
 .simp only[YaM,YeB,or_false]at V
  rcases V with rfl | rfl<;>exact A4Z ZbL J
 .rcases YaM.1 V with rfl | V
  .exact A0g ZbG J
  .exact Ul r V i J
theorem Vo(h:n<256):∀r∈CS n,In8 r (-1000) 1000:=(Vn h).in8
theorem A1Q(h:n<256):LZ (Gp IW) (CS n):=⟨λr V i J=>by
 have:=Vo h r V i J;unfold IW;omega,by have:=LG n;omega⟩
theorem A1P(h:n<256):OrB (CS n):=⟨λr V=>⟨λi J=>by
 have:=Vo h r V i J;unfold IB;omega,λi J=>A99 r V i J⟩,by have:=LG n;omega⟩
theorem A5o(h:n<16384):(BA n).length<=2:=by
 rw[BA];split
 .simp
 .rw [Yay, VO ZbG]
  exact Yah _
theorem Kj{z:Int}(q:-8000<=z)(A:z<=8000):(Bm z).length<=2:=by
 unfold Bm TI;refine A5o ?_;split<;>omega
theorem Xv{z:Nat}(h:z<256):(BZ (CS z)).length<=161:=by
 have I:=LG z
 have q := FD (e := Fy) (B := 16) (l := CS z) ZbG fun r V => LM (B := 2) fun i J => by
  have:=Vo h r V i J;exact Kj ZbG ZbG
 have A:(CS z).length*16<=10*16:=YaX I (Yah _);show(Bt Fy (CS z)).length<=_;omega
theorem Zp(h:RSz vD n)(N:n<=10000):QZ (LK vD):=⟨⟨BG _,Yat h.1 N⟩,⟨BG _,Yat h.2 N⟩⟩
theorem Zq(h:RSz vD n)(N:n<=10000):QB (LK vD):=⟨⟨BG _,YbW h.1 ZbG⟩,⟨BG _,YbW h.2 ZbG⟩⟩
theorem Nn(h:RSz vD n)(N:n<=60):(CG (LK vD)).length<=2+8*n:=A7k h.1 h.2 N
theorem XB{z:Int}(q:-1000<=z)(A:z<=1000):RSz ((z:Int):Rat) 1:=Jw ZbG ZbG
def SO(V:List Int)(k i:Nat):RQ×RQ:=if i<8 then Eh V k i else default
theorem A5F(d:I8 vq)(k i:Nat):RSz (loB vq k i) 2/\RSz (loB vq k i+wiB vq k) 5/\loB vq k i<=loB vq k i+wiB vq k:=by
 have q:=Cj d (k+i);have A:=Cj d k;have a:RSz (loB vq k i) 2:=NH ZbG ZbG ZbG ZbG;have b:RSz (wiB vq k) 2:=NH ZbG ZbG ZbG ZbG
 have c:0<=wiB vq k:=by
  unfold wiB;rw[Rat.divInt_nonneg_iff_of_pos_right ZbL];omega
 refine⟨a,a.add b,?_⟩;have:=(Rat.add_le_add_left (c:=loB vq k i)).2 c;rwa [Rat.add_zero]at this
theorem A87(d:I8 vq)(k i:Nat):(∃p,(Eh vq k i).1=LK p/\RSz p 5)/\∃p,(Eh vq k i).2=LK p/\RSz p 5:=by
 have h:=A5F d k i;unfold Eh;split
 .exact ⟨⟨_,rfl,h.1.mono ZbL⟩,⟨_,rfl,h.2.1⟩⟩
 .exact ⟨⟨_,rfl,(XB (z:=0) ZbL ZbL).mono ZbL⟩,⟨_,rfl,(XB (z:=0) ZbL ZbL).mono ZbL⟩⟩
theorem A2u(d:I8 vq)(k i:Nat):IvP (Eh vq k i):=by
 have h:=A5F d k i;unfold Eh;split
 .refine ⟨Oi _,Oi _,?_⟩
  show ID (Ou (LK _)) (Ou (LK _))<=0;rw[OE,OE,A21];exact h.2.2
 .refine ⟨Oi _,Oi _,?_⟩
  show ID (Ou (LK _)) (Ou (LK _))<=0;rw[A21];exact Rat.le_refl
theorem A68(d:I8 vq)(k:Nat):BxP 2 (SO vq k):=λi J=>by
 have e:SO vq k i=Eh vq k i:=Yan J;unfold A6V;rw[e];refine⟨λ_=>A2u d k i,λA=>?_⟩;have y:Eh vq k i=zI:=Yai ZbG;rw[y];exact⟨⟨Oi _,OE _⟩,⟨Oi _,OE _⟩⟩
theorem Ma(d:I8 vq)(k i:Nat):VZ (Eh vq k i)/\VB (Eh vq k i)/\(GO (Eh vq k i)).length<=84:=by
 obtain⟨⟨p,G,Z⟩,⟨q,A,L⟩⟩:=A87 d k i;refine⟨⟨by rw[G];exact Zp Z ZbL,by rw[A];exact Zp L ZbL⟩,⟨by rw[G];exact Zq Z ZbL,by rw[A];exact Zq L ZbL⟩,?_⟩;unfold GO;rw[Yaa,G,A];have:=Nn Z ZbL;have:=Nn L ZbL;omega
theorem LY(d:I8 vq)(k:Nat):Gp VZ (SO vq k)/\Oct VB (SO vq k)/\(GR (SO vq k)).length<=672:=by
 have e:∀i,i<8->SO vq k i=Eh vq k i:=λi J=>Yan J;refine⟨λi J=>?_,⟨λi J=>?_,λi J=>Yai ZbG⟩,?_⟩
 .rw [e i J];exact(Ma d k i).1
 .rw [e i J];exact(Ma d k i).2.1
 .exact LM (e:=GO) (B:=84) λi J=>by rw[e i J];exact(Ma d k i).2.2
def Srd(l:List (List Tm)):Prop:=∀k,k+1<l.length->CW (l.getD k default) (l.getD (k+1) default)<0
theorem Yq{l:List (List Tm)}{a k:Nat}(B:a<=l.length):(l.take a++vb::l.drop a).getD k default=if k<a then l.getD k default else if k=a then vb else l.getD (k-1) default:=by
 have I:(l.take a).length=a:=ZgP
 rw[Yab];by_cases q:k<a
 .rw [Yan q,Yav ZbG,YaK,Yan q,Yab]
 .rw [Yai q, Yal ZbG, I]
  by_cases A:k=a
  .subst A
   rw[Yan rfl,Yeo];rfl
  .rw [Yai A, show k-a=(k-a-1)+1 by omega, YcV, YbO, Yab]
   congr 2;omega
theorem A5I(h:Srd vL):Srd (GH o vL vb):=by
 unfold GH;split
 .exact h
 .rename_i C
  have l:=VC vb vL;intro k B;have n:(vL.take (Fz vb vL)++vb::vL.drop (Fz vb vL)).length=vL.length+1:=ZiB
  rw[n]at B;rw[Yq l,Yq l];have O:=λj=>VA vb (l:=vL) (k:=j);have F:=VD vb (l:=vL);generalize Fz vb vL=a at *;by_cases q:k+1<a
  .rw [Yan ZbG, Yan q]
   exact h k ZbG
  .by_cases A:k+1=a
   .rw [Yan ZbG, Yai q, Yan A]
    exact O k ZbG
   .by_cases K:k=a
    .rw [Yai ZbG, Yan K, Yai q, Yai A]
     subst K;rw[YbX];have E:¬CW (vL.getD k default) vb<0:=F ZbG;have G:Hg (vL.getD k default) vb≠true:=λe=>C (.inr (.inr ⟨by omega,e⟩));rw[<-A31]at G;have u:CW (vL.getD k default) vb≠0:=λe=>G (Yak e);have:=XM (vL.getD k default) vb;omega
    .rw [Yai ZbG, Yai K, Yai q, Yai A, YbX]
     have:=h (k-1) ZbG;rwa [show k-1+1=k by omega]at this
theorem Xt(plain:Bool)(L:List (List Tm)):∀k,k<=L.length->Srd (KJ plain L k)
 |0,_=>λk B=>by simp[KJ]at B
 |k+1,h=>by
  rw[JG plain L ZbG];exact A5I (Xt plain L k ZbG)
theorem Vj{plain:Bool}{L:List (List Tm)}{q:List Tm}:∀{k},k<=L.length->q∈KJ plain L k->q.length≠0/\(plain=true->HU q≠0)
 |0,_,h=>by simp[KJ]at h
 |k+1,B,h=>by
  rw[JG plain L ZbG]at h;unfold GH at h;split at h
  .exact Vj ZbG h
  .rename_i A
   have Q:q∈KJ plain L k->q.length≠0/\(plain=true->HU q≠0):=λh=>Vj ZbG h;rcases YbQ.1 h with h | h
   .exact Q (Ybs h)
   .rcases YaM.1 h with h | h
    .rw [h]
     exact⟨λe=>A (.inl e),λG e=>A (.inr (.inl ⟨G,e⟩))⟩
    .exact Q (Yci h)
theorem A7O(h:vK∈vb):CV vK.m 8<=HU vb:=by
 have f:∀(vb:List Tm) (a:Int),a<=vb.foldl (λd vK=>max d (CV vK.m 8)) a:=by
  intro vb
  induction vb with
  |nil=>intro a;exact YbM _
  |cons vK vb v=>
   intro a;have:=v (max a (CV vK.m 8));show a<=vb.foldl _ (max a (CV vK.m 8));omega
 have:∀(vb:List Tm) (a:Int),vK∈vb->CV vK.m 8<=vb.foldl (λd vK=>max d (CV vK.m 8)) a:=by
  intro vb
  induction vb with
  |nil=>intro a h;cases h
  |cons u vb v=>
   intro a h;rcases YaM.1 h with h | h
   .subst h
    have:=f vb (max a (CV vK.m 8));show CV vK.m 8<=vb.foldl _ (max a (CV vK.m 8));omega
   .exact v _ h
 exact this vb _ h
theorem MP.deg0(h:MP n vb)(d:vb.length≠0):0<=HU vb:=by
 have x:Bv vb 0∈vb:=by
  rw[Bv,Yab,Yac ZbG];exact ZkC
 have q:=A7O x;have A:=(IZ (h.b.ex _ x) 8 (Yah _)).1;omega
theorem A4J(plain:Bool){L:List (List Tm)}(m:∀P∈L,MP 9 P)(I:L.length<=6)(A:Int)(k:A=if plain=true then 1 else 0):MA 2 A (rQ (Ju plain L))/\(Ju plain L).length<=6/\∀P∈Ju plain L,MP 37 P:=by
 have n:=KI plain L L.length (Yah _)
 have E:∀P∈Ju plain L,MP 37 P:=λP M=>by
  obtain⟨C,d,rfl⟩:=Nj (Yah _) M;exact(m C d).nrm
 have F:=Xt plain L L.length (Yah _)
 have u:∀i,i<(Ju plain L).length->Mo (pAt (rQ (Ju plain L)) i)=(Ju plain L).getD i default/\pAt (rQ (Ju plain L)) i=((Ju plain L).getD i default).map DK:=λi J=>by
  have e:pAt (rQ (Ju plain L)) i=((Ju plain L).getD i default).map DK:=by
   unfold pAt rQ;rw[Yab,Yau,Yab,Yac J];rfl
  exact⟨by rw[e,KG],e⟩
 refine⟨⟨by rw[rQ,Yap];exact Yat n ZbG,λi J=>?_⟩,Yat n I,E⟩;rw[rQ,Yap]at J
 have x:(Ju plain L).getD i default∈Ju plain L:=by
  rw[Yab,Yac J];exact ZkC
 have B:=Vj (Yah _) x;obtain⟨C,d,N⟩:=Nj (Yah _) x;refine⟨⟨?_,?_,?_⟩,λg=>?_⟩
 .rw [(u i J).2]
  exact(E _ x).bd ZbL
 .rw [(u i J).1,k]
  have q:=(E _ x).deg0 B.1;split
  .rename_i G
   have:=B.2 G;omega
  .exact q
 .rw [(u i J).1,N,A5k _ (m C d).b.can]
  exact LH.2 (SameL.refl _)
 .rw [(u i J).1, (u (i-1) ZbG).1]
  have:=F (i-1) (by show i-1+1<(Ju plain L).length;omega);rwa [show i-1+1=i by omega]at this
def ZW(f:Nat->RQ×RQ):Nat->RQ×RQ:=λi=>if i<8 then f i else default
noncomputable def KU (q:Nat) (L:List (Nat×List (Nat->Int))) (V:List Int):Clm:=
 ⟨(Cw q L V).kind,(Cw q L V).p,(Cw q L V).n,(Cw q L V).d,(Cw q L V).r,(Cw q L V).o,(Cw q L V).l,(Cw q L V).s,(Cw q L V).b.map ZW⟩
theorem A2t(b:List (Nat->RQ×RQ)):FX (b.map ZW)=FX b:=by
 unfold FX;rw[Yce];congr 1
theorem A5y(q:Nat)(L:List (Nat×List (Nat->Int)))(V:List Int):ED (KU q L V)=ED (Cw q L V):=by
 unfold ED KU
 dsimp only
 rw[A2t]
structure ClIn(V:List Int)(c:Clm):Prop where
 kd:1<=c.kind/\c.kind<=13
 p:∃P,c.p=P.map DK/\MP 9 P
 n:-1<=c.n/\c.n<=1000
 d:-1<=c.d/\c.d<=1000
 r:-1<=c.r/\c.r<=1000
 o:∃z,z<256/\c.o=CS z
 l:∃Q,c.l=rQ Q/\(∀P∈Q,MP 9 P)/\Q.length<=3
 s:(∀z∈c.s,-1<=z/\z<=1)/\c.s.length<=3
 b:(∀g∈c.b,∃k,g=SO V k)/\c.b.length<=3
theorem Un(N:n<=10000)(h:∀P∈vL,MP n P)(I:vL.length<=40000):LZ PZ (rQ vL):=⟨λp G=>by
 obtain⟨P,M,rfl⟩:=YaA.1 G;exact(h P M).pz N,by rw[rQ,Yap];exact I⟩
theorem Uo(N:n<=10000)(h:∀P∈vL,MP n P)(I:vL.length<=40000):PsB (rQ vL):=⟨λp G=>by
 obtain⟨P,M,rfl⟩:=YaA.1 G;exact(h P M).po N,by rw[rQ,Yap];omega⟩
theorem OJ{N B:Nat}(C:N<=60)(h:∀P∈vL,MP N P)(I:vL.length<=B)(m:B<128):(Bf (rQ vL)).length<=1+B*(31+24*N):=by
 have k:(rQ vL).length<=B:=by rw[rQ,Yap];exact I
 have q := FD (e := Cp) (B := 31 + 24 * N) (l := rQ vL) ZbG fun p G => by
  obtain⟨P,M,rfl⟩:=YaA.1 G;exact(h P M).len C
 have A:(rQ vL).length*(31+24*N)<=B*(31+24*N):=YaX k (Yah _);show(Bt Cp (rQ vL)).length<=_;omega
theorem ClIn.z{c:Clm}(h:ClIn vq c)(A:I8 vq):ClZ c:=by
 obtain⟨P,G,M⟩:=h.p;obtain⟨z,u,m⟩:=h.o;obtain⟨Q,q,i,I⟩:=h.l;have k:=h.kd;have n:=h.n;have d:=h.d;have r:=h.r;refine⟨by unfold IW;omega,by rw[G];exact M.pz ZbL,by unfold IW;omega,by unfold IW;omega,by unfold IW;omega,by rw[m];exact A1Q u,by rw[q];exact Un ZbL i ZbG,⟨λz u=>?_,by have:=h.s.2;omega⟩,⟨λg T=>?_,by have:=h.b.2;omega⟩⟩
 .have:=h.s.1 z u
  unfold IW;omega
 .obtain ⟨k,rfl⟩:=h.b.1 g T
  exact(LY A k).1
theorem ClIn.cb{c:Clm}(h:ClIn vq c)(A:I8 vq):ClB c:=by
 obtain⟨P,G,M⟩:=h.p;obtain⟨z,u,m⟩:=h.o;obtain⟨Q,q,i,I⟩:=h.l;have k:=h.kd;have n:=h.n;have d:=h.d;have r:=h.r;refine⟨by unfold IB;omega,by rw[G];exact M.po ZbL,by unfold IB;omega,by unfold IB;omega,by unfold IB;omega,by rw[m];exact A1P u,by rw[q];exact Uo ZbL i ZbG,⟨λz u=>?_,by have:=h.s.2;omega⟩,⟨λg T=>?_,by have:=h.b.2;omega⟩⟩
 .have:=h.s.1 z u
  unfold IB;omega
 .obtain ⟨k,rfl⟩:=h.b.1 g T
  exact(LY A k).2.1
theorem ClIn.len{c:Clm}(h:ClIn vq c)(A:I8 vq):(IN c).length<=3300:=by
 obtain⟨P,G,M⟩:=h.p;obtain⟨z,u,m⟩:=h.o;obtain⟨Q,q,i,I⟩:=h.l;have k:=h.kd;have n:=h.n;have d:=h.d;have r:=h.r;have K:=Kj (z:=c.kind) ZbG ZbG;have Y:=Kj (z:=c.n) ZbG ZbG;have W:=Kj (z:=c.d) ZbG ZbG;have O:=Kj (z:=c.r) ZbG ZbG;have C:=M.len ZbL;have S:=Xv u;have V:=OJ ZbL i I ZbL
 have E := FD (e := Bm) (B := 2) (l := c.s) (by have := h.s.2; omega) fun z u => by
  have:=h.s.1 z u;exact Kj ZbG ZbG
 have X := FD (e := GR) (B := 672) (l := c.b) (by have := h.b.2; omega) fun g T => by
  obtain⟨k,rfl⟩:=h.b.1 g T;exact(LY A k).2.2
 have y:c.s.length*2<=3*2:=YaX h.s.2 (Yah _);have Z:c.b.length*672<=3*672:=YaX h.b.2 (Yah _);unfold IN;rw[G,m,q];simp only[Yaa];have B:(Fb c.b).length=(Bt GR c.b).length:=rfl;omega
theorem Wn(kind n d r:Int){P:List Tm}(M:MP 9 P){z:Nat}(u:z<256)(i:∀P∈vL,MP 9 P)(I:vL.length<=3){s:List Int}(Z:∀z∈s,-1<=z/\z<=1)(L:s.length<=3){N:Nat}(B:N<=3)(q:1<=kind/\kind<=13)(A:-1<=n/\n<=1000)(K:-1<=d/\d<=1000)(Y:-1<=r/\r<=1000):ClIn vq ⟨kind,P.map DK,n,d,r,CS z,rQ vL,s,((List.range N).map (Eh vq)).map ZW⟩:=
 ⟨q,⟨P,rfl,M⟩,A,K,Y,⟨z,u,rfl⟩,⟨vL,rfl,i,I⟩,⟨Z,L⟩,λg T=>by
  obtain⟨f,p,rfl⟩:=YaA.1 T;obtain⟨k,_,rfl⟩:=YaA.1 p;exact⟨k,rfl⟩,by simpa using B⟩
theorem A24{N:Nat}(h:∀P∈vL,MP N P)(i n:Nat):∀P∈pQ vL i n,MP N P:=λP M=>by
 obtain⟨j,_,rfl⟩:=YaA.1 M;split
 .exact MP.nil
 .rename_i d
  have O:(i+j)%vL.length<vL.length:=YaV _ ZbG;exact ZhB
theorem VE(Q:List (List Tm))(i n:Nat):(pQ Q i n).length=n:=by simp[pQ]
theorem Nm(L:List (Nat×List (Nat->Int))):∀P∈AZ L,MP 9 P:=λ_ h=>A8o h
theorem Ab4(L:List (Nat×List (Nat->Int))):MP 9 (pC L):=by
 unfold pC;split
 .exact MP.nil
 .rename_i d
  have O:2%(AZ L).length<(AZ L).length:=YaV _ ZbG;rw[Yab,Yac O];exact Nm L _ (Ybm O)
theorem NC{N:Nat}(h:∀P∈vL,MP N P):MD 2 (rQ vL):=λp G=>by
 obtain⟨P,M,rfl⟩:=YaA.1 G;exact(h P M).bd ZbL
theorem YR (d : I8 vq) {N : Nat} (q : N ≤ 3) : Tn 2 (((List.range N).map (Eh vq)).map ZW) := ⟨by simp; omega, fun g T => by
 obtain⟨f,p,rfl⟩:=YaA.1 T;obtain⟨k,_,rfl⟩:=YaA.1 p;exact A68 d k⟩
theorem A8E(V:List Int)(N:Nat):∀z∈(List.range N).map (λi=>(AR V i%128)%3-1),-1<=z/\z<=1:=λz u=>by
 obtain⟨i,_,rfl⟩:=YaA.1 u;omega
theorem A3f(B:Nat)(L:List (Nat×List (Nat->Int)))(V:List Int)(d:I8 V):ClIn V (KU B L V)/\∀K:Cor,K.n=2->Dd K (KU B L V):=by
 have q:=Cj d 1;have A:=Cj d 3;have x:B%13<13:=YaV _ ZbL;have G:=Ab4 L;have N:(AR V 1%8%4).toNat<=3:=by omega
 have k:=A24 (Nm L) 1 (AR V 1%8%4).toNat;have M:=VE (AZ L) 1 (AR V 1%8%4).toNat;have t:∀P∈([]:List (List Tm)),MP 9 P:=λP h=>by cases h
 have w:∀z∈([]:List Int),-1<=z/\z<=1:=λz h=>by cases h
 unfold KU Cw;by_cases Y:B%13=0\/B%13=1\/B%13=9
 .simp only[Yan Y]
  refine⟨Wn (z:=0) (N:=0) _ _ _ _ G ZbL t ZbL w ZbL ZbL ZbG ZbL ZbL ZbL,λK C=>?_⟩;rw[Dd,Yan ZbZ,C];exact⟨G.bd ZbL,⟨rfl,rfl,rfl⟩,rfl,rfl,rfl,rfl⟩
 simp only[Yai Y];by_cases s:B%13=3
 .simp only[Yan s]
  refine⟨Wn (N:=0) _ _ _ _ (P:=[]) MP.nil ZbG k ZbG w ZbL ZbL ZbL ZbL ZbL ZbL,λK C=>?_⟩;rw[Dd,Yai ZbZ,Yai ZbZ,Yan rfl,C];exact⟨⟨Vn ZbG,by rw[rQ,Yap];omega,NC k⟩,⟨rfl,rfl,rfl⟩,rfl,rfl,rfl⟩
 simp only[Yai s];by_cases F:B%13=4
 .simp only[Yan F]
  refine⟨Wn (z:=0) (N:=0) _ _ _ _ (P:=[]) MP.nil ZbL t ZbL w ZbL ZbL ZbL ZbG ZbG ZbL,λK C=>?_⟩;rw[Dd,Yai ZbZ,Yai ZbZ,Yai ZbZ,Yan rfl,C];exact⟨⟨by dsimp only;omega,by dsimp only;omega,by unfold SmI;dsimp only;omega⟩,rfl,rfl,rfl,rfl,rfl,rfl⟩
 simp only[Yai F];by_cases E:B%13=5
 .simp only[Yan E]
  refine⟨Wn (z:=0) (N:=0) _ _ _ _ (P:=[]) MP.nil ZbL t ZbL w ZbL ZbL ZbL ZbG ZbG ZbG,λK C=>?_⟩;rw[Dd,Yai ZbZ,Yai ZbZ,Yai ZbZ,Yai ZbZ,Yan rfl];exact⟨⟨by dsimp only;omega,by dsimp only;omega,by dsimp only;omega,by unfold SmI;dsimp only;omega⟩,rfl,rfl,rfl,rfl,rfl⟩
 simp only[Yai E];by_cases J:B%13=6
 .simp only[Yan J]
  refine⟨Wn (z:=0) _ _ _ _ (P:=[]) MP.nil ZbL t ZbL w ZbL N ZbL ZbL ZbL ZbL,λK C=>?_⟩;rw[Dd,Yai ZbZ,Yai ZbZ,Yai ZbZ,Yai ZbZ,Yai ZbZ,Yan rfl,C];exact⟨YR d N,⟨rfl,rfl,rfl⟩,rfl,rfl,rfl,rfl⟩
 simp only[Yai J];by_cases U:B%13=7
 .simp only[Yan U]
  refine⟨Wn (z:=0) _ _ _ _ G ZbL t ZbL (A8E V _) ZiB N ZbL ZbL ZbL ZbL,λK C=>?_⟩;rw[Dd,Yai ZbZ,Yai ZbZ,Yai ZbZ,Yai ZbZ,Yai ZbZ,Yai ZbZ,Yan rfl,C];exact⟨⟨G.bd ZbL,YR d N,by simp,A8E V _⟩,⟨rfl,rfl,rfl⟩,rfl,rfl⟩
 simp only[Yai U];by_cases I:B%13=10
 .simp only[Yan I]
  refine⟨Wn (z:=0) (N:=0) _ _ _ _ (P:=[]) MP.nil ZbL k ZbG w ZbL ZbL ZbL ZbL ZbL ZbL,λK C=>?_⟩;rw[Dd,Yai ZbZ,Yai ZbZ,Yai ZbZ,Yai ZbZ,Yai ZbZ,Yai ZbZ,Yai ZbZ,Yan rfl,C];exact⟨⟨by rw[rQ,Yap];omega,NC k⟩,⟨rfl,rfl,rfl⟩,rfl,rfl,rfl,rfl⟩
 simp only[Yai I];by_cases c:B%13=11\/B%13=12
 .simp only[Yan c]
  refine⟨Wn (z:=0) (N:=0) _ _ _ _ (P:=[]) MP.nil ZbL t ZbL w ZbL ZbL ZbG ZbG ZbL ZbL,λK C=>?_⟩;rw[Dd,Yai ZbZ,Yai ZbZ,Yai ZbZ,Yai ZbZ,Yai ZbZ,Yai ZbZ,Yai ZbZ,Yai ZbZ,Yan ZbZ];exact⟨by unfold SmI;dsimp only;omega,⟨rfl,rfl⟩,rfl,rfl,rfl,rfl,rfl⟩
 simp only[Yai c];refine⟨Wn (z:=0) (N:=0) _ _ _ _ (P:=[]) MP.nil ZbL t ZbL w ZbL ZbL ZbG ZbL ZbL ZbL,λK C=>?_⟩;rw[Dd,Yai ZbZ,Yan ZbZ];exact⟨⟨rfl,rfl,rfl⟩,rfl,rfl,rfl,rfl,rfl⟩
theorem Ab6(L:List (Nat×List (Nat->Int)))(V:List Int):nK L V<=2:=by
 unfold nK;omega
theorem A5v(L:List (Nat×List (Nat->Int)))(V:List Int):On (GM L V)/\CZ (GM L V)/\CoB (GM L V)/\(FV (GM L V)).length<=12000/\(GM L V).e.length<=2:=by
 have B:=XF L;have h:=Ab6 L V;have q:=A4J false (L:=(AZ L).take (nK L V)) (λP M=>Nm L P (Ybs M)) ZgP 0 rfl;have A:=A4J true (L:=((AZ L).take (min (AZ L).length (nK L V+1))).drop (nK L V)) (λP M=>Nm L P (Ybs (Yci M))) ZeW 1 rfl
 have C:(GM L V).e.length<=2:=by
  have K:=KI false ((AZ L).take (nK L V)) _ (Yah _);have Y:((AZ L).take (nK L V)).length<=2:=ZgP
  show(rQ _).length<=2;rw[rQ,Yap];exact Yat K Y
 refine⟨⟨by show(1:Int)<=2;decide,by show(2:Int)<=4;decide,q.1,A.1⟩,⟨by show IW 2;unfold IW;decide,Un ZbL q.2.2 ZbG,Un ZbL A.2.2 ZbG⟩,⟨by show IB 2;unfold IB;decide,Uo ZbL q.2.2 ZbG,Uo ZbL A.2.2 ZbG⟩,?_,C⟩;have a:=OJ ZbL q.2.2 q.2.1 ZbL;have b:=OJ ZbL A.2.2 A.2.1 ZbL;have c:=Kj (z:=2) ZbL ZbL;unfold FV;simp only[Yaa];show(Bm 2).length+(Bf (rQ _)).length+(Bf (rQ _)).length<=_;omega
open Classical
def GN(κ:Int)(Q:List (List Tm))(V:List Int)(m c:Nat):Crt:=
 ⟨(DL κ Q V m c).n,(DL κ Q V m c).cof,(DL κ Q V m c).g,(DL κ Q V m c).o,(DL κ Q V m c).c,(DL κ Q V m c).q,(DL κ Q V m c).s,(DL κ Q V m c).r,(DL κ Q V m c).a,(DL κ Q V m c).sq,(DL κ Q V m c).x,(DL κ Q V m c).b.map ZW⟩
theorem A5x(z:Int)(Q:List (List Tm))(V:List Int)(m c:Nat):DE (GN z Q V m c)=DE (DL z Q V m c):=by
 rw[Wi,Wi];unfold GN
 dsimp only
 rw[A2t]
theorem A4A(Q:List Rat):∀n,Vg Q n=0\/Q.getD (Vg Q n-1) default≠0
 |0=>.inl rfl
 |n+1=>by
  unfold Vg;split
  .exact A4A Q n
  .rename_i h
   exact .inr (by rw[YbX];exact h)
theorem A01(d:I8 vq)(n:Nat):(∀q∈KA vq n,RSz q 1)/\(KA vq n).length<=n+1:=by
 constructor
 .intro q k
  obtain⟨z,u,rfl⟩:=YaA.1 (Ybs k);have:=d z (Ybs u);exact XB ZbG ZbG
 .unfold KA Tv
  rw[YaO,Yap,YaO];omega
theorem A4N(B:I8 vq)(A:n<=10):ShP ((KA vq n).map LK):=by
 refine⟨by rw[Yap];have:=(A01 B n).2;omega,λq k=>?_,?_⟩
 .obtain ⟨p,_,rfl⟩:=YaA.1 k
  exact Oi p
 .rw [Yap]
  have C:=A4B (Tv vq n) (Tv vq n).length
  have I:(KA vq n).length=Vg (Tv vq n) (Tv vq n).length:=by
   unfold KA;exact ZgP
  rcases A4A (Tv vq n) (Tv vq n).length with h | h
  .exact .inl (by rw[I];exact h)
  .by_cases d:(KA vq n).length=0
   .exact .inl d
   .refine .inr ?_
    have O:(KA vq n).length-1<(KA vq n).length:=by omega
    have e:(KA vq n).getD ((KA vq n).length-1) default=(Tv vq n).getD (Vg (Tv vq n) (Tv vq n).length-1) default:=by
     rw[I];unfold KA;rw[Yab,YaK,Yan ZbG,Yab]
    rw[Yab,Yau,Yac O];show Ou (LK _)≠0;rw[OE];rw[Yab,Yac O]at e;have e:(KA vq n)[(KA vq n).length-1]=(Tv vq n).getD (Vg (Tv vq n) (Tv vq n).length-1) default:=e;rw[e];exact h
theorem XE(Q:List (List Tm))(c k:Nat):(tQ (Gw Q c k)).length=k:=by simp[tQ,Gw]
theorem A1U(q:∀P∈vL,MP 9 P)(c k:Nat):∀l∈tQ (Gw vL c k),∃R,l=rQ R/\(∀P∈R,MP 9 P)/\R.length=c:=λl I=>by
 obtain⟨R,B,rfl⟩:=YaA.1 I;obtain⟨i,_,rfl⟩:=YaA.1 B;exact⟨_,rfl,A24 q _ _,VE _ _ _⟩
theorem Vi (i : ∀ P ∈ vL, MP 9 P) (c k : Nat) : JA 2 ((k : Nat) : Int) ((c : Nat) : Int) (tQ (Gw vL c k)) := ⟨by rw [XE], fun l I => by
 obtain⟨R,rfl,B,F⟩:=A1U i c k l I;exact⟨by rw[rQ,Yap,F],NC B⟩⟩
structure TIn(t:List (List (List RTm))):Prop where
 e:∀l∈t,∃R,l=rQ R/\(∀P∈R,MP 9 P)/\R.length<=3
 n:t.length<=7
theorem TIn.nil:TIn []:=⟨λl h=>ZdE,by decide⟩
theorem Ww(i:∀P∈vL,MP 9 P){c k:Nat}(F:c<=3)(B:k<=7):TIn (tQ (Gw vL c k)):=⟨λl I=>by
 obtain⟨R,q,A,K⟩:=A1U i c k l I;exact⟨R,q,A,by omega⟩,by rw[XE];exact B⟩
theorem TIn.z{t:List (List (List RTm))}(h:TIn t):LZ (LZ PZ) t:=⟨λl I=>by
 obtain⟨R,rfl,A,K⟩:=h.e l I;exact Un ZbL A ZbG,by have:=h.n;omega⟩
theorem TIn.b{t:List (List (List RTm))}(h:TIn t):TaB t:=⟨λl I=>by
 obtain⟨R,rfl,A,K⟩:=h.e l I;exact Uo ZbL A ZbG,by have:=h.n;omega⟩
theorem TIn.len{t:List (List (List RTm))}(h:TIn t):(BJ t).length<=5195:=by
 have q := FD (e := Bf) (B := 742) (l := t) (by have := h.n; omega) fun l I => by
  obtain⟨R,rfl,A,K⟩:=h.e l I;exact Yat (OJ ZbL A K ZbL) ZbL
 have A:t.length*742<=7*742:=YaX h.n (Yah _);show(Bt Bf t).length<=_;omega
structure UIn(l:List RQ):Prop where
 e:∀q∈l,∃p,q=LK p/\RSz p 1
 n:l.length<=4
theorem UIn.nil:UIn []:=⟨λl h=>ZdE,by decide⟩
theorem UIn.sm(d:I8 vq)(h:n<=3):UIn ((KA vq n).map LK):=⟨λq k=>by
 obtain⟨p,G,rfl⟩:=YaA.1 k;exact⟨p,rfl,(A01 d n).1 p G⟩,by rw[Yap];have:=(A01 d n).2;omega⟩
theorem UIn.z{l:List RQ}(h:UIn l):LZ QZ l:=⟨λq k=>by
 obtain⟨p,rfl,G⟩:=h.e q k;exact Zp G ZbL,by have:=h.n;omega⟩
theorem UIn.b{l:List RQ}(h:UIn l):UnB l:=⟨λq k=>by
 obtain⟨p,rfl,G⟩:=h.e q k;exact Zq G ZbL,by have:=h.n;omega⟩
theorem UIn.len{l:List RQ}(h:UIn l):(GF l).length<=41:=by
 have A := FD (e := CG) (B := 10) (l := l) (by have := h.n; omega) fun q k => by
  obtain⟨p,rfl,G⟩:=h.e q k;exact Nn G ZbL
 have B:l.length*10<=4*10:=YaX h.n (Yah _);show(Bt CG l).length<=_;omega
structure CrIn(V:List Int)(e:Crt):Prop where
 n:0<=e.n/\e.n<=64
 cof:∃Q,e.cof=rQ Q/\(∀P∈Q,MP 9 P)/\Q.length<=3
 g:∃Q,e.g=rQ Q/\(∀P∈Q,MP 9 P)/\Q.length<=3
 o:∃z,z<256/\e.o=CS z
 c:TIn e.c
 q:TIn e.q
 s:TIn e.s
 rl:∀i,-1000<=e.r.l i/\e.r.l i<=1000
 rz:∀i,8<=i->e.r.l i=0
 rq:UIn e.r.q
 rr:∀i,UIn (e.r.r i)
 r8:∀i,8<=i->e.r.r i=[]
 a:(∀x∈e.a,∃k i,x=Eh V k i)/\e.a.length<=3
 sq:(∀x∈e.sq,∃i P,x=(LK (Rat.divInt (AR V i) 5),P.map DK)/\MP 9 P)/\e.sq.length<=3
 x:(∀x∈e.x,∃k,x=ptF V k)/\e.x.length<=3
 b:(∀g∈e.b,∃k,g=SO V k)/\e.b.length<=3
theorem Vz(d:I8 vq)(k:Nat)(J:n<8):∃p,ptF vq k n=LK p/\RSz p 1:=by
 unfold ptF;split
 .have:=Cj d k
  exact⟨_,rfl,XB ZbG ZbG⟩
 .exact ⟨_,rfl,XB ZbL ZbL⟩
theorem A4K(d:I8 vq)(i:Nat):RSz (Rat.divInt (AR vq i) 5) 2:=by
 have:=Cj d i;exact NH ZbG ZbG ZbL ZbL
theorem CrIn.z{e:Crt}(h:CrIn vq e)(d:I8 vq):CrZ e:=by
 obtain⟨N,b,q,r⟩:=h.cof;obtain⟨O,y,A,j⟩:=h.g;obtain⟨z,u,m⟩:=h.o;have n:=h.n;refine⟨by unfold IW;omega,by rw[b];exact Un ZbL q ZbG,by rw[y];exact Un ZbL A ZbG,by rw[m];exact A1Q u,h.c.z,h.q.z,h.s.z,⟨λi _=>?_,h.rq.z,λi _=>(h.rr i).z⟩,⟨λx C=>?_,by have:=h.a.2;omega⟩,⟨λx C=>?_,by have:=h.sq.2;omega⟩,⟨λx C i J=>?_,by have:=h.x.2;omega⟩,⟨λg T=>?_,by have:=h.b.2;omega⟩⟩
 .have:=h.rl i
  unfold IW;omega
 .obtain ⟨k,i,rfl⟩:=h.a.1 x C
  exact(Ma d k i).1
 .obtain ⟨i,P,rfl,M⟩:=h.sq.1 x C
  exact⟨Zp (A4K d i) ZbL,M.pz ZbL⟩
 .obtain ⟨k,rfl⟩:=h.x.1 x C
  obtain⟨p,G,Z⟩:=Vz d k J;rw[G];exact Zp Z ZbL
 .obtain ⟨k,rfl⟩:=h.b.1 g T
  exact(LY d k).1
theorem CrIn.cb{e:Crt}(h:CrIn vq e)(d:I8 vq):CrB e:=by
 obtain⟨N,b,q,r⟩:=h.cof;obtain⟨O,y,A,j⟩:=h.g;obtain⟨z,u,m⟩:=h.o;have n:=h.n;refine⟨by unfold IB;omega,by rw[b];exact Uo ZbL q ZbG,by rw[y];exact Uo ZbL A ZbG,by rw[m];exact A1P u,h.c.b,h.q.b,h.s.b,⟨⟨λi _=>?_,h.rz⟩,h.rq.b,⟨λi _=>(h.rr i).b,h.r8⟩⟩,⟨λx C=>?_,by have:=h.a.2;omega⟩,⟨λx C=>?_,by have:=h.sq.2;omega⟩,⟨λx C=>?_,by have:=h.x.2;omega⟩,⟨λg T=>?_,by have:=h.b.2;omega⟩⟩
 .have:=h.rl i
  unfold IB;omega
 .obtain ⟨k,i,rfl⟩:=h.a.1 x C
  exact(Ma d k i).2.1
 .obtain ⟨i,P,rfl,M⟩:=h.sq.1 x C
  exact⟨Zq (A4K d i) ZbL,M.po ZbL⟩
 .obtain ⟨k,rfl⟩:=h.x.1 x C
  refine⟨λi J=>?_,λi J=>?_⟩
  .obtain ⟨p,G,Z⟩:=Vz d k J
   rw[G];exact Zq Z ZbL
  .unfold ptF
   exact ZjM
 .obtain ⟨k,rfl⟩:=h.b.1 g T
  exact(LY d k).2.1
theorem CrIn.len{e:Crt}(h:CrIn vq e)(d:I8 vq):(KC e).length<=22000:=by
 obtain⟨N,b,q,r⟩:=h.cof;obtain⟨O,y,A,j⟩:=h.g;obtain⟨z,u,m⟩:=h.o;have n:=h.n;have K:=Kj (z:=e.n) ZbG ZbG;have Y:=OJ ZbL q r ZbL;have W:=OJ ZbL A j ZbL;have L:=Xv u;have Q:=h.c.len;have S:=h.q.len;have V:=h.s.len
 have X:(Kg e.r).length<=400:=by
  unfold Kg;simp only[Yaa]
  have B:=LM (e:=Bm) (f:=e.r.l) (B:=2) λi _=>by
   have:=h.rl i;exact Kj ZbG ZbG
  have F:=h.rq.len;have c:=LM (e:=GF) (f:=e.r.r) (B:=41) λi _=>(h.rr i).len;have b:(Fy e.r.l).length=(Jx Bm e.r.l).length:=rfl;omega
 have a := FD (e := GO) (B := 84) (l := e.a) (by have := h.a.2; omega) fun x C => by
  obtain⟨k,i,rfl⟩:=h.a.1 x C;exact(Ma d k i).2.2
 have f := FD (e := Kz) (B := 265) (l := e.sq) (by have := h.sq.2; omega) fun x C => by
  obtain⟨i,P,rfl,M⟩:=h.sq.1 x C;unfold Kz;rw[Yaa];have:=Nn (A4K d i) ZbL;have:=M.len ZbL
  dsimp only
  omega
 have l := FD (e := Qp) (B := 80) (l := e.x) (by have := h.x.2; omega) fun x C => by
  obtain⟨k,rfl⟩:=h.x.1 x C
  exact LM (e:=CG) (B:=10) λi J=>by
   obtain⟨p,G,Z⟩:=Vz d k J;rw[G];exact Nn Z ZbL
 have o := FD (e := GR) (B := 672) (l := e.b) (by have := h.b.2; omega) fun g T => by
  obtain⟨k,rfl⟩:=h.b.1 g T;exact(LY d k).2.2
 have I:e.a.length*84<=3*84:=YaX h.a.2 (Yah _);have s:e.sq.length*265<=3*265:=YaX h.sq.2 (Yah _);have t:e.x.length*80<=3*80:=YaX h.x.2 (Yah _);have v:e.b.length*672<=3*672:=YaX h.b.2 (Yah _);have E:(Fb e.b).length=(Bt GR e.b).length:=rfl;unfold KC;rw[b,y,m];simp only[Yaa];omega
theorem MW:Oj ZI:=⟨λ_ _=>rfl,rfl,λ_ _=>rfl⟩
theorem Abd(V:List Int):gN V<=3:=by
 unfold gN;omega
theorem AaL(h:n<=3):((n*(n-1)/2:Nat):Int)=((n:Nat):Int)*(((n:Nat):Int)-1)/2:=by
 rcases(by omega:n=0\/n=1\/n=2\/n=3)with rfl | rfl | rfl | rfl<;>rfl
theorem AaP(h:n<=3):((1+n*(n+1)/2:Nat):Int)=1+((n:Nat):Int)*(((n:Nat):Int)+1)/2:=by
 rcases(by omega:n=0\/n=1\/n=2\/n=3)with rfl | rfl | rfl | rfl<;>rfl
theorem AaQ(h:n<=3):n*(n-1)/2<=7:=by
 rcases(by omega:n=0\/n=1\/n=2\/n=3)with rfl | rfl | rfl | rfl<;>decide
theorem AaO(h:n<=3):1+n*(n+1)/2<=7:=by
 rcases(by omega:n=0\/n=1\/n=2\/n=3)with rfl | rfl | rfl | rfl<;>decide
theorem Ab2(h:∀P∈vL,MP 9 P)(i:Nat):MP 9 (pP vL i):=by
 unfold pP;split
 .exact MP.nil
 .rename_i d
  have O:i%vL.length<vL.length:=YaV _ ZbG;exact ZhB
theorem A96(h:∀P∈vL,MP 9 P)(V:List Int)(B:n<=3):(∀x∈sqL vL V n,∃i P,x=(LK (Rat.divInt (AR V i) 5),P.map DK)/\MP 9 P)/\(sqL vL V n).length<=3:=⟨λx C=>by
 obtain⟨i,_,rfl⟩:=YaA.1 C;exact⟨i,_,rfl,Ab2 h i⟩,by simp[sqL];omega⟩
theorem Aa3(V:List Int)(B:n<=3):(∀x∈atL V n,∃n i,x=Eh V n i)/\(atL V n).length<=3:=⟨λx C=>by
 obtain⟨i,_,rfl⟩:=YaA.1 C;exact⟨i,0,rfl⟩,by simp[atL];omega⟩
theorem A9k(V:List Int)(B:n<=3):(∀x∈ptL V n,∃n,x=ptF V n)/\(ptL V n).length<=3:=⟨λx C=>by
 obtain⟨i,_,rfl⟩:=YaA.1 C;exact⟨i,rfl⟩,by simp[ptL];omega⟩
theorem A9X(V:List Int)(B:n<=3):(∀g∈(bxL V n).map ZW,∃n,g=SO V n)/\((bxL V n).map ZW).length<=3:=⟨λx C=>by
 obtain⟨f,p,rfl⟩:=YaA.1 C;obtain⟨i,_,rfl⟩:=YaA.1 p;exact⟨i+1,rfl⟩,by simp[bxL];omega⟩
theorem SI{Q1 Q2:List (List Tm)}{z:Nat}{c q s:List (List (List RTm))}{J:List (RQ×List RTm)}{x:List (Nat->RQ)}{b:List (Nat->RQ×RQ)}(G:0<=a/\a<=64)(A:∀P∈Q1,MP 9 P)(r:Q1.length<=3)(B:∀P∈Q2,MP 9 P)(j:Q2.length<=3)(u:z<256)(F:TIn c)(I:TIn q)(Z:TIn s)(Y:(∀x∈J,∃i P,x=(LK (Rat.divInt (AR vq i) 5),P.map DK)/\MP 9 P)/\J.length<=3)(C:(∀y∈x,∃k,y=ptF vq k)/\x.length<=3)(E:(∀g∈b,∃k,g=SO vq k)/\b.length<=3):CrIn vq ⟨a,rQ Q1,rQ Q2,CS z,c,q,s,ZI,[],J,x,b⟩:=
 ⟨G,⟨Q1,rfl,A,r⟩,⟨Q2,rfl,B,j⟩,⟨z,u,rfl⟩,F,I,Z,λi=>by show(-1000:Int)<=0/\(0:Int)<=1000;decide,λi _=>rfl,UIn.nil,λi=>UIn.nil,λi _=>rfl,⟨λx h=>ZdE,Yaw _⟩,Y,C,E⟩
theorem Kk:(∀x∈([]:List (RQ×List RTm)),∃i P,x=(LK (Rat.divInt (AR vq i) 5),P.map DK)/\MP 9 P)/\([]:List (RQ×List RTm)).length<=3:=⟨λx h=>ZdE,by decide⟩
theorem MJ:(∀y∈([]:List (Nat->RQ)),∃k,y=ptF vq k)/\([]:List (Nat->RQ)).length<=3:=⟨λx h=>ZdE,by decide⟩
theorem MK:(∀g∈([]:List (Nat->RQ×RQ)),∃k,g=SO vq k)/\([]:List (Nat->RQ×RQ)).length<=3:=⟨λx h=>ZdE,by decide⟩
theorem A4X(V:List Int)(d:I8 V)(i:Nat):-1000<=(rsM V).l i/\(rsM V).l i<=1000:=by
 have:=Cj d 5;show -1000<=(if i=0 then(1:Int)else if i=1 then AR V 5 else 0)/\(if i=0 then(1:Int)else if i=1 then AR V 5 else 0)<=1000;split
 .decide
 .split<;>omega
theorem AaV(V:List Int)(d:I8 V)(i:Nat):UIn ((rsM V).r i):=by
 show UIn (if i=1 then(KA V 2).map LK else[]);split
 .exact UIn.sm d ZbL
 .exact UIn.nil
theorem AaW(V:List Int)(d:I8 V):Wx 2 (rsM V):=by
 refine⟨A4N d ZbL,λi _=>?_,λi J=>⟨?_,?_,λA=>⟨?_,?_⟩⟩⟩
 .show ShP (if i=1 then(KA V 2).map LK else[])
  split
  .exact A4N d ZbL
  .exact ⟨by decide,λq h=>ZdE,.inl rfl⟩
 .have:=A4X V d i
  omega
 .have:=A4X V d i
  omega
 .show (if i=0 then(1:Int)else if i=1 then AR V 5 else 0)=0
  exact ZjM
 .show (if i=1 then(KA V 2).map LK else[]).length=0
  rw[Yai ZbG];rfl
theorem A82(d:I8 vq){K:Cor}{C:Clm}{m c:Nat}(B:K.n=2)(I:K.e.length=m)(z:m<=2)(F:C.l.length=c)(W:c<=3){κ:Int}(X:C.kind=κ)(f:1<=κ/\κ<=13)(L:∀P∈vL,MP 9 P):DS K C (GN κ vL vq m c)/\CrIn vq (GN κ vL vq m c):=by
 have T:=Abd vq;have w:(0:Int)<=0/\(0:Int)<=64:=by decide
 have zg:(0:Int)<=((gN vq+1:Nat):Int)/\((gN vq+1:Nat):Int)<=64:=by omega
 have j:=A24 L 1 m;have r:=VE vL 1 m;have V:=A24 L 0 (gN vq);have Y:=VE vL 0 (gN vq);have t:∀P∈([]:List (List Tm)),MP 9 P:=λP h=>by cases h
 have u:((((rQ (pQ vL 1 m)).length:Nat):Int)=((K.e.length:Nat):Int))/\MD K.n (rQ (pQ vL 1 m)):=⟨by rw[rQ,Yap,r,I],by rw[B];exact NC j⟩;have a:(rQ (pQ vL 0 (gN vq))).length=gN vq:=by rw[rQ,Yap,Y]
 have R:Jq 2 (rQ (pQ vL 0 (gN vq))):=⟨by rw[a];omega,NC V⟩;have oz:OValid (CS (gN vq)):=Vn ZbG;have v:JA 2 (((rQ (pQ vL 0 (gN vq))).length:Nat):Int) ((K.e.length:Nat):Int) (tQ (Gw vL m (gN vq))):=by rw[a,I];exact Vi L _ _
 have o:JA 2 ((K.e.length:Nat):Int) (((rQ (pQ vL 0 (gN vq))).length:Nat):Int) (tQ (Gw vL (gN vq) m)):=by rw[a,I];exact Vi L _ _
 have H:JA 2 ((((rQ (pQ vL 0 (gN vq))).length:Nat):Int)*((((rQ (pQ vL 0 (gN vq))).length:Nat):Int)-1)/2) (((rQ (pQ vL 0 (gN vq))).length:Nat):Int) (tQ (Gw vL (gN vq) (gN vq*(gN vq-1)/2))):=by rw[a,<-AaL T];exact Vi L _ _
 have Q:TIn (tQ (Gw vL m (gN vq))):=Ww L ZbG ZbG;have n:TIn (tQ (Gw vL (gN vq) m)):=Ww L ZbG ZbG;have i3:TIn (tQ (Gw vL (gN vq) (gN vq*(gN vq-1)/2))):=Ww L ZbG (AaQ T);by_cases y:κ=1
 .have b:DL κ vL vq m c=⟨0, rQ (pQ vL 1 m), [], [], [], [], [], ZI, [], [], [], []⟩:=by unfold DL;rw [Yan y]
  unfold GN;rw[b];refine⟨?_,SI (z:=0) (Q2:=[]) w j ZbG t ZbL ZbL TIn.nil TIn.nil TIn.nil Kk MJ MK⟩;unfold DS;rw[X,Yan y];exact⟨u,rfl,rfl,rfl,rfl,rfl,rfl,MW,rfl,rfl,rfl,rfl⟩
 by_cases s:κ=3
 .have b:DL κ vL vq m c=⟨((gN vq+1:Nat):Int), rQ (pQ vL 1 m), [], [], [], [], [], ZI, [], [], [], []⟩:=by unfold DL;rw [Yai y, Yan s]
  unfold GN;rw[b];refine⟨?_,SI (z:=0) (Q2:=[]) zg j ZbG t ZbL ZbL TIn.nil TIn.nil TIn.nil Kk MJ MK⟩;unfold DS;rw[X,Yai y,Yai (show¬(κ=2\/κ=4\/κ=5\/κ=6)by omega),Yan s];exact⟨⟨by dsimp only;omega,by dsimp only;omega,u⟩,rfl,rfl,rfl,rfl,rfl,MW,rfl,rfl,rfl,rfl⟩
 by_cases N:κ=9\/κ=10
 .have b:DL κ vL vq m c=⟨0, rQ (pQ vL 1 m), [], [], [], [], [], ZI, [], sqL vL vq (gN vq), [], []⟩:=by unfold DL;rw [Yai y, Yai s, Yan N]
  have Z:=A96 L vq T;unfold GN;rw[b];refine⟨?_,SI (z:=0) (Q2:=[]) w j ZbG t ZbL ZbL TIn.nil TIn.nil TIn.nil Z MJ MK⟩;unfold DS;rw[X,Yai y,Yai (show¬(κ=2\/κ=4\/κ=5\/κ=6)by omega),Yai s,Yai (show¬(κ=7\/κ=8)by omega),Yan N,B];refine⟨⟨Yat Z.2 ZbL,λx q=>?_,u⟩,rfl,rfl,rfl,rfl,rfl,rfl,MW,rfl,rfl,rfl⟩;obtain⟨i,P,rfl,M⟩:=Z.1 x q;exact⟨Oi _,M.bd ZbL⟩
 by_cases O:κ=11
 .have b:DL κ vL vq m c=⟨0, [], [], [], tQ (Gw vL m (1+c*(c+1)/2)), [], [], ZI, [], [], [], []⟩:=by unfold DL;rw [Yai y, Yai s, Yai N, Yan O]
  unfold GN;rw[b];refine⟨?_,SI (z:=0) (Q1:=[]) (Q2:=[]) w t ZbL t ZbL ZbL (Ww L ZbG (AaO W)) TIn.nil TIn.nil Kk MJ MK⟩;unfold DS;rw[X,Yai y,Yai (show¬(κ=2\/κ=4\/κ=5\/κ=6)by omega),Yai s,Yai (show¬(κ=7\/κ=8)by omega),Yai N,Yan O,B];refine⟨?_,rfl,rfl,rfl,rfl,rfl,rfl,MW,rfl,rfl,rfl,rfl⟩;rw[F,I,<-AaP W];exact Vi L _ _
 by_cases S:κ=12
 .have b:DL κ vL vq m c=⟨0, [], rQ (pQ vL 0 (gN vq)), CS (gN vq), tQ (Gw vL m (gN vq)), [], [], ZI, [], [], [], []⟩:=by unfold DL;rw [Yai y, Yai s, Yai N, Yai O, Yan S]
  unfold GN;rw[b];refine⟨?_,SI (Q1:=[]) w t ZbL V ZbG ZbG Q TIn.nil TIn.nil Kk MJ MK⟩;unfold DS;rw[X,Yai y,Yai (show¬(κ=2\/κ=4\/κ=5\/κ=6)by omega),Yai s,Yai (show¬(κ=7\/κ=8)by omega),Yai N,Yai O,Yan S,B];exact⟨⟨R,oz,v⟩,rfl,rfl,rfl,rfl,MW,rfl,rfl,rfl,rfl⟩
 by_cases e:κ=13
 .have b:DL κ vL vq m c=⟨0, [], [], [], [], [], [], ZI, [], [], ptL vq (gN vq), bxL vq (gN vq)⟩:=by unfold DL;rw [Yai y, Yai s, Yai N, Yai O, Yai S, Yan e]
  have q:=A9k vq T;have E:=A9X vq T;unfold GN;rw[b];refine⟨?_,SI (z:=0) (Q1:=[]) (Q2:=[]) w t ZbL t ZbL ZbL TIn.nil TIn.nil TIn.nil Kk q E⟩;unfold DS;rw[X,Yai y,Yai (show¬(κ=2\/κ=4\/κ=5\/κ=6)by omega),Yai s,Yai (show¬(κ=7\/κ=8)by omega),Yai N,Yai O,Yai S,Yan e,B];refine⟨⟨Yat q.2 ZbL,λx h=>?_,Yat E.2 ZbL,λg h=>?_⟩,rfl,rfl,rfl,rfl,rfl,rfl,rfl,MW,rfl,rfl⟩
  .obtain ⟨k,rfl⟩:=q.1 x h
   intro i J;obtain⟨p,G,Z⟩:=Vz d k J;refine⟨by rw[G];exact Oi _,λA=>?_⟩;unfold ptF;rw[Yai ZbG,Yan J];exact OE _
  .obtain ⟨k,rfl⟩:=E.1 g h
   exact A68 d k
 by_cases U:κ=7\/κ=8
 .have b:DL κ vL vq m c=⟨0, [], rQ (pQ vL 0 (gN vq)), CS (gN vq), tQ (Gw vL m (gN vq)), tQ (Gw vL (gN vq) m), tQ (Gw vL (gN vq) (gN vq*(gN vq-1)/2)), rsM vq, atL vq (gN vq), [], [], []⟩:=by unfold DL;rw [Yai y, Yai s, Yai N, Yai O, Yai S, Yai e, Yan U]
  have l:=Aa3 vq T;unfold GN;rw[b];refine⟨?_,⟨by show(0:Int)<=0/\(0:Int)<=64;decide,⟨[],rfl,t,by decide⟩,⟨_,rfl,V,by omega⟩,⟨_,by omega,rfl⟩,Q,n,i3,A4X vq d,λi J=>?_,UIn.sm d ZbL,AaV vq d,λi J=>?_,l,Kk,MJ,MK⟩⟩
  .unfold DS
   rw[X,Yai y,Yai (show¬(κ=2\/κ=4\/κ=5\/κ=6)by omega),Yai s,Yan U,B];refine⟨⟨by unfold LC;rw[B];exact⟨R,oz,v,o,H⟩,Yat l.2 ZbL,λx q=>?_,AaW vq d⟩,rfl,rfl,rfl,rfl,rfl⟩;obtain⟨k,i,rfl⟩:=l.1 x q;exact A2u d k i
  .show (if i=0 then(1:Int)else if i=1 then AR vq 5 else 0)=0
   exact ZjM
  .show (if i=1 then(KA vq 2).map LK else[])=[]
   rw[Yai ZbG]
 have b:DL κ vL vq m c=⟨0,[],rQ (pQ vL 0 (gN vq)),CS (gN vq),tQ (Gw vL m (gN vq)),tQ (Gw vL (gN vq) m),tQ (Gw vL (gN vq) (gN vq*(gN vq-1)/2)),ZI,[],[],[],[]⟩:=by unfold DL;rw[Yai y,Yai s,Yai N,Yai O,Yai S,Yai e,Yai U]
 unfold GN;rw[b];refine⟨?_,SI (Q1:=[]) w t ZbL V ZbG ZbG Q n i3 Kk MJ MK⟩;unfold DS;rw[X,Yai y,Yan (show κ=2\/κ=4\/κ=5\/κ=6 by omega)];exact⟨by unfold LC;rw[B];exact⟨R,oz,v,o,H⟩,rfl,rfl,MW,rfl,rfl,rfl,rfl⟩
end
