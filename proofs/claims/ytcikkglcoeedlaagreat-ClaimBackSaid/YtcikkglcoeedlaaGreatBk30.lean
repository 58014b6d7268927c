/- Part 30. No condition. -/
import Derived.Test.YtcikkglcoeedlaaGreatBk19
import Derived.Test.YtcikkglcoeedlaaGreatBk20
import Derived.Test.YtcikkglcoeedlaaGreatBk21
import Derived.Test.YtcikkglcoeedlaaGreatBk28
import Derived.Test.YtcikkglcoeedlaaGreatBk29
set_option linter.unusedSimpArgs false
set_option linter.unusedVariables false
set_option maxRecDepth 100000
set_option maxHeartbeats 2000000
namespace Go.Proofs.YtcikkglcoeedlaaGreat
open _root_.Go.Proofs.Tryz
variable{p:Bool}{a:Int}{vM:List (List Tm)}{vq:List Int}{vb:List Tm}{n:Nat}{vA:Rat}{vL:Tm}
section
open Go.RowKit
def sqL(Q:List (List Tm))(V:List Int)(k:Nat):List (RQ×List RTm):=(List.range k).map λi=>(LJ (Rat.divInt (AR V i) 5),(pP Q i).map EC)
theorem A4z(Q:List (List Tm))(V:List Int)(k:Nat):slD 184 5 (US Q V k)=UR (sqL Q V k):=by
 unfold UR US sqL;rw[Ycc];congr 1
 exact YaX λi _=>by
  show DA _++[BS _]=Jq (_,_);unfold Jq;rw[Kf];rfl
def atL(V:List Int)(k:Nat):List (RQ×RQ):=(List.range k).map λi=>Ee V i 0
theorem A5W(V:List Int)(k:Nat):slD 129 8 (VX V k)=VG (atL V k):=by
 unfold VG VX atL;rw[Ycc];rfl
def ptF(V:List Int)(k i:Nat):RQ:=if i=0 then LJ ((AR V k:Int):Rat)else if i<8 then zQ else default
def ptL(V:List Int)(k:Nat):List (Nat->RQ):=(List.range k).map (ptF V)
theorem A9k(V:List Int)(k:Nat):slD 187 32 (pxR V k)=A03 (ptL V k):=by
 unfold A03 pxR ptL;rw[Ycc];congr 1
def bxL(V:List Int)(k:Nat):List (Nat->RQ×RQ):=(List.range k).map λi=>Ee V (i+1)
theorem Aaa(V:List Int)(k:Nat):slD 131 64 (bxR V k)=Gb (bxL V k):=by
 unfold Gb bxR bxL;rw[Ycc];rfl
abbrev Zy:Rsl:=⟨λ_=>0,[],λ_=>[]⟩
def rsM(V:List Int):Rsl:=⟨λi=>if i=0 then 1 else if i=1 then AR V 5 else 0,(KC V 3).map LJ,λi=>if i=1 then(KC V 2).map LJ else[]⟩
def tQ(L:List (List (List Tm))):List (List (List RTm)):=L.map rQ
def DJ(T:Int)(Q:List (List Tm))(V:List Int)(m c:Nat):Crt:=
 if T=1 then⟨0,rQ (pQ Q 1 m),[],[],[],[],[],Zy,[],[],[],[]⟩
 else if T=3 then⟨((gN V+1:Nat):Int),rQ (pQ Q 1 m),[],[],[],[],[],Zy,[],[],[],[]⟩
 else if T=9\/T=10 then⟨0,rQ (pQ Q 1 m),[],[],[],[],[],Zy,[],sqL Q V (gN V),[],[]⟩
 else if T=11 then⟨0,[],[],[],tQ (Gz Q m (1+c*(c+1)/2)),[],[],Zy,[],[],[],[]⟩
 else if T=12 then⟨0,[],rQ (pQ Q 0 (gN V)),CS (gN V),tQ (Gz Q m (gN V)),[],[],Zy,[],[],[],[]⟩
 else if T=13 then⟨0,[],[],[],[],[],[],Zy,[],[],ptL V (gN V),bxL V (gN V)⟩
 else if T=7\/T=8 then⟨0,[],rQ (pQ Q 0 (gN V)),CS (gN V),tQ (Gz Q m (gN V)),tQ (Gz Q (gN V) m),tQ (Gz Q (gN V) (gN V*(gN V-1)/2)),rsM V,atL V (gN V),[],[],[]⟩
 else⟨0,[],rQ (pQ Q 0 (gN V)),CS (gN V),tQ (Gz Q m (gN V)),tQ (Gz Q (gN V) m),tQ (Gz Q (gN V) (gN V*(gN V-1)/2)),Zy,[],[],[],[]⟩
theorem VP(e:Crt):DD e=[ex (.int .i64 e.n),Ib e.cof,Ib e.g,Ep e.o,SY e.c,SY e.q,SY e.s,ex (.int .i64 (e.r.l 0)),ex (.int .i64 (e.r.l 1)),ex (.int .i64 (e.r.l 2)),ex (.int .i64 (e.r.l 3)),ex (.int .i64 (e.r.l 4)),ex (.int .i64 (e.r.l 5)),ex (.int .i64 (e.r.l 6)),ex (.int .i64 (e.r.l 7)),GY e.r.q,GY (e.r.r 0),GY (e.r.r 1),GY (e.r.r 2),GY (e.r.r 3),GY (e.r.r 4),GY (e.r.r 5),GY (e.r.r 6),GY (e.r.r 7),VG e.a,UR e.sq,A03 e.x,Gb e.b]:=rfl
theorem WI(T o:Nat)(N:Nat)(L:List (Nat×List (Nat->Int)))(p:Tc L)(V:List Int)(e:I8 V)(J:V.length<=9223372036854775807)(M:Int)(E:List (List Tm))(A:E.length<=12)(F I G R P:D)(n d r:Int)(C:List (List Tm))(K:C.length<=12)(B:Int):Abs prog 49 [AP (He T o N L V),AP [ex (.int .i64 M),Ba E,F],AP [ex (.int .i64 B),I,ex (.int .i64 n),ex (.int .i64 d),ex (.int .i64 r),G,Ba C,R,P]] (AP (DD (DJ B (AZ L) V E.length C.length))):=by
 rw[VP];unfold DJ;by_cases k:B=1
 .rw [Yan k,k]
  refine(A3W T o N L p V e J M E A F I G R P n d r C K).le (Ce ?_)
  repeat (first | exact DsLe.nil | refine DsLe.cons (Ae (EZ _)) ?_ | refine DsLe.cons AL ?_ | refine DsLe.cons (D.le.refl _) ?_)
 rw[Yai k];by_cases m:B=3
 .rw [Yan m,m]
  refine(A3V T o N L p V e J M E A F I G R P n d r C K).le (Ce ?_)
  repeat (first | exact DsLe.nil | refine DsLe.cons (Ae (EZ _)) ?_ | refine DsLe.cons AL ?_ | refine DsLe.cons (D.le.refl _) ?_)
 rw[Yai m];by_cases z:B=9\/B=10
 .rw [Yan z]
  rcases z with z | z
  .refine (A3S T o N L p V e J M E A F I G R P n d r C K B z).le (Ce ?_)
   repeat (first | exact DsLe.nil | refine DsLe.cons (Ae (EZ _)) ?_ | refine DsLe.cons (Ae (A4z _ _ _)) ?_ | refine DsLe.cons AL ?_ | refine DsLe.cons (D.le.refl _) ?_)
  .refine (A1m T o N L p V e J M E A F I G R P n d r C K B z).le (Ce ?_)
   repeat (first | exact DsLe.nil | refine DsLe.cons (Ae (EZ _)) ?_ | refine DsLe.cons (Ae (A4z _ _ _)) ?_ | refine DsLe.cons AL ?_ | refine DsLe.cons (D.le.refl _) ?_)
 rw[Yai z];by_cases O:B=11
 .rw [Yan O,O]
  refine(A1l T o N L p V e J M E A F I G R P n d r C K).le (Ce ?_)
  repeat (first | exact DsLe.nil | refine DsLe.cons (Ae (Nf _)) ?_ | refine DsLe.cons AL ?_ | refine DsLe.cons (D.le.refl _) ?_)
 rw[Yai O];by_cases c:B=12
 .rw [Yan c,c]
  refine(A1k T o N L p V e J M E A F I G R P n d r C K).le (Ce ?_)
  repeat (first | exact DsLe.nil | refine DsLe.cons (Ae (EZ _)) ?_ | refine DsLe.cons (Ae (Nf _)) ?_ | refine DsLe.cons AL ?_ | refine DsLe.cons (D.le.refl _) ?_)
 rw[Yai c];by_cases W:B=13
 .rw [Yan W,W]
  refine(A1j T o N L p V e J M E A F I G R P n d r C K).le (Ce ?_)
  repeat (first | exact DsLe.nil | refine DsLe.cons (Ae (A9k _ _)) ?_ | refine DsLe.cons (Ae (Aaa _ _)) ?_ | refine DsLe.cons AL ?_ | refine DsLe.cons (D.le.refl _) ?_)
 rw[Yai W];by_cases S:B=7\/B=8
 .rw [Yan S]
  rcases S with S | S
  .refine (A3U T o N L p V e J M E A F I G R P n d r C K B S).le (Ce ?_)
   repeat (first | exact DsLe.nil | refine DsLe.cons (Ae (EZ _)) ?_ | refine DsLe.cons (Ae (Nf _)) ?_ | refine DsLe.cons (Ae (A4Q _)) ?_ | refine DsLe.cons (Ae (A5W _ _)) ?_ | refine DsLe.cons AL ?_ | refine DsLe.cons (D.le.refl _) ?_)
  .refine (A3T T o N L p V e J M E A F I G R P n d r C K B S).le (Ce ?_)
   repeat (first | exact DsLe.nil | refine DsLe.cons (Ae (EZ _)) ?_ | refine DsLe.cons (Ae (Nf _)) ?_ | refine DsLe.cons (Ae (A4Q _)) ?_ | refine DsLe.cons (Ae (A5W _ _)) ?_ | refine DsLe.cons AL ?_ | refine DsLe.cons (D.le.refl _) ?_)
 rw[Yai S];have g:B≠7/\B≠8:=⟨λh=>S (.inl h),λh=>S (.inr h)⟩;have Q:B≠9/\B≠10:=⟨λh=>z (.inl h),λh=>z (.inr h)⟩;refine(A3R T o N L p V e J M E A F I G R P n d r C K B k m g.1 g.2 Q.1 Q.2 O c W).le (Ce ?_)
 repeat (first | exact DsLe.nil | refine DsLe.cons (Ae (EZ _)) ?_ | refine DsLe.cons (Ae (Nf _)) ?_ | refine DsLe.cons AL ?_ | refine DsLe.cons (D.le.refl _) ?_)
noncomputable def XM (N:Nat) (L:List (Nat×List (Nat->Int))) (V:List Int):Fct:=
 ⟨GN L V,Cx N L V,DJ (Cx N L V).kind (AZ L) V (GN L V).e.length (Cx N L V).l.length⟩
theorem A1Y(N:Nat)(L:List (Nat×List (Nat->Int)))(V:List Int):(Cx N L V).l.length<=3:=by
 have A:(AR V 1%8%4).toNat<=3:=by omega
 unfold Cx
 repeat' split
 all_goals first | exact Yaw _ | (simp only[rQ,pQ,Yar,Yev];exact A)
theorem Xm(L:List (Nat×List (Nat->Int))):(AZ L).length<=6:=by
 exact ZhK
theorem A6q(T S:Nat)(N:Nat)(a:N<256)(L:List (Nat×List (Nat->Int)))(p:Tc L)(V:List Int)(R:I8 V)(J:V.length<=9223372036854775807):Abs prog 15 [AP (He T S N L V)] (AP (El (XM N L V))):=by
 have W:=WH T S N L p V R J;have O:=Tu T S N a L p V R J;have q:=A1Y N L V;obtain⟨kind,P,n,d,r,o,Q,s,b,I,Y⟩:=A0g N L V R;rw[I]at O q;rw[Gs]at O
 have h:Q.length<=12:=by
  have G:Q.length<=3:=by simpa[rQ]using q
  omega
 obtain⟨E,K⟩:∃E,E=Jp false ((AZ L).take (nK L V)):=⟨_,rfl⟩;obtain⟨F,hF⟩:∃F,F=Jp true (((AZ L).take (min (AZ L).length (nK L V+1))).drop (nK L V)):=⟨_,rfl⟩;have C:Eb (GN L V)=[ex (.int .i64 2),Ba E,Ba F]:=by rw[K,hF,EZ,EZ];rfl
 have Z:E.length<=12:=by
  have A:=KH false ((AZ L).take (nK L V)) _ (Yah _);have B:=Xm L;have G:((AZ L).take (nK L V)).length<=6:=ZgN
  rw[K];exact Yat A (Yat G ZbH)
 rw[C]at W;have l:=WI T S N L p V R J 2 E Z (Ba F) (BS P) (Ep o) (Np s) (Gb b) n d r Q h kind
 have M:DJ (Cx N L V).kind (AZ L) V (GN L V).e.length (Cx N L V).l.length=DJ kind (AZ L) V E.length Q.length:=by
  rw[I,show(GN L V).e.length=E.length by rw[K];simp[GN,rQ]];simp[rQ]
 have X:El (XM N L V)=[ex (.int .i64 2),Ba E,Ba F]++([ex (.int .i64 kind),BS P,ex (.int .i64 n),ex (.int .i64 d),ex (.int .i64 r),Ep o,Ba Q,Np s,Gb b]++DD (DJ kind (AZ L) V E.length Q.length)):=by
  unfold XM El
  dsimp only
  rw[M,C,I,Gs]
 rw[X];generalize DJ kind (AZ L) V E.length Q.length=e at l ⊢;clear X M I C K hF;refine Ab func15 λv=>?_;rw[ntmps15];apply Y1;refine Bx ?_;refine Al ?_;refine Y0<|Ai ?_
 refine Dy 6 ?_;refine Xq AH ?_;refine Xq (AK (W)) ?_;refine Xq AH ?_;refine Xq (AK (O)) ?_;refine Xn ?_;refine Xn ?_;refine⟨_,rfl,?_⟩;refine Sf ?_;refine Sf ?_;refine Y0<|Ai ?_
 refine Dy 7 ?_;refine Xq AH ?_;refine Xq AH ?_;refine Xq AH ?_;refine Xq AH ?_;refine Xq AH ?_;refine Xq (AK (l)) ?_;(refine Hq rfl ?_;refine AI (Aa rfl) rfl rfl rfl ?_;(repeat ((first | refine⟨_,Aw (ah rfl),?_⟩ | refine⟨_,Po rfl,?_⟩);refine⟨_,rfl,?_⟩));refine⟨_,rfl,?_⟩;refine⟨_,rfl,?_⟩);refine⟨_,rfl,?_⟩;refine Sf ?_;refine Y0<|BV ?_
 exact ZjQ
structure MP(N:Nat)(P:List Tm):Prop where
 b:PB P 3 N 2
 z:∀t∈P,∀i,2<=i->t.m i=0
theorem MP.nil{N:Nat}:MP N []:=⟨PB.nil,λt h=>ZdC⟩
theorem A4H(h:vL∈Xi vA vb):∃s∈vb,s.m=vL.m:=by
 unfold Xi at h;split at h
 .cases h
 .obtain ⟨s,Y,rfl⟩:=YaA.1 h
  exact⟨s,Y,(Hg _).symm⟩
theorem A5f(X:List (Nat->Int)):∀(A:List Tm),(∀t∈A,∀i,2<=i->t.m i=0)->∀t∈X.foldl (λa r=>Jb a (A01 2 2 r)) A,∀i,2<=i->t.m i=0:=by
 induction X with
 |nil=>intro A h;exact h
 |cons r X C=>
  intro A h;refine C _ λt M i K=>?_;rcases Ig _ _ t M with⟨s,Y,e⟩ | ⟨s,Y,e⟩
  .rw [<-e];exact h s Y i K
  .rw [<-e]
   obtain⟨u,S,B⟩:=A4H Y;rw[<-B];simp only[YaC]at S;rw[S];show Sh 2 r 2 i=0;unfold Sh;rw[Yai ZbD]
theorem A8f{L:List (Nat×List (Nat->Int))}(h:vb∈AZ L):MP 9 vb:=by
 have F:=Vh L vb h;obtain⟨x,_,rfl⟩:=YaA.1 h;exact⟨F,A5f _ [] λt h=>ZdC⟩
theorem MP.nrm(h:MP 9 vb):MP 37 (DX vb):=by
 have q:=Nr vb
 have m:∀t∈DX vb,∃s∈vb,s.m=t.m:=λt M=>by
  obtain⟨k,C,rfl⟩:=List.mem_iff_getElem.1 M;have S:k<vb.length:=by rwa [q]at C
  have A:=A5a vb S;have B:BA (DX vb) k=(DX vb)[k]:=by simp[BA,Yab,C]
  rw[B]at A;rw[A];exact⟨BA vb k,by simp[BA,Yab,S],rfl⟩
 refine⟨?_,λt M i K=>?_⟩
 .unfold DX
  split
  .exact PB.nil
  .rename_i c
   have J:=h.b.len;have Q:vb.length*9<=3*9:=YaW J (Yah _);have:=A4q (t:=⟨HT vb,λ_=>0⟩) (d0:=0) h.b (Vw vb h.b.can ZbD) ((Ns vb h.b.sz h.b.can ZbD).mono (show 1+vb.length*9<=28 by omega)) λi _=>⟨YbL _,YbL _⟩;rwa [Int.zero_add]at this
 .obtain ⟨s,Y,e⟩:=m t M
  rw[<-e];exact h.z s Y i K
theorem MP.use(h:MP n vb):Ov vb<4:=by
 refine Nat.lt_of_not_le λI=>?_;obtain⟨i,K,F⟩:=Nat.exists_ge_and_testBit_of_ge_two_pow (n:=2) ZeY;by_cases y:i<8
 .obtain ⟨t,M,G⟩:=(A4g vb i y).1 F
  rw[h.z t M i K]at G;omega
 .have A:=UM vb
  have B:=Nat.testBit_lt_two_pow (x:=Ov vb) (i:=i) (Yaq A (Ybk (n:=2) ZbH (show 8<=i by omega)));rw[B]at F;cases F
theorem A5I(e:-1<=a)(h:∀t∈vb,CV t.m 8<=a):HV vb<=a:=by
 unfold HV
 have:∀(vb:List Tm) (B:Int),B<=a->(∀t∈vb,CV t.m 8<=a)->vb.foldl (λa t=>max a (CV t.m 8)) B<=a:=by
  intro vb
  induction vb with
  |nil=>intro B p _;exact p
  |cons t vb C=>
   intro B p h;have A:=h t (Ybn ..);exact C _ (by show max B (CV t.m 8)<=a;omega) λu S=>h u (Ybc _ S)
 exact this vb _ e h
theorem MP.deg (h : MP n vb) : HV vb ≤ 4 := A5I ZbH fun t M => by
 have c:=h.b.ex t M 0 ZbH;have A:=h.b.ex t M 1 ZbH;have B:=h.z t M;have e:CV t.m 8=0+t.m 0+t.m 1+t.m 2+t.m 3+t.m 4+t.m 5+t.m 6+t.m 7:=rfl;rw[e,B 2 ZbH,B 3 ZbH,B 4 ZbH,B 5 ZbH,B 6 ZbH,B 7 ZbH];omega
theorem MP.bd{N:Nat}{P:List Tm}(h:MP N P)(e:4<=a):UH 2 a (P.map EC):=by
 refine⟨WT h.b.can (h.b.ex.mono (YbL _) ZbH),?_,?_⟩
 .rw [KF];exact h.use
 .rw [KF];exact Yek h.deg e
theorem MP.pz(h:MP n vb)(R:n<=10000):PZ (vb.map EC):=⟨λr X=>by
 obtain⟨t,M,rfl⟩:=YaA.1 X;have Y:=h.b.sz t M;exact⟨⟨BG _,Yat Y.1 R⟩,⟨BG _,Yat Y.2 R⟩⟩,by rw[Yar];have:=h.b.len;omega⟩
theorem MP.po(h:MP n vb)(R:n<=10000):PoB (vb.map EC):=⟨λr X=>by
 obtain⟨t,M,rfl⟩:=YaA.1 X;have Y:=h.b.sz t M;refine⟨⟨BG _,?_⟩,⟨BG _,?_⟩,λi K=>?_,λi K=>?_⟩
 .exact YbU Y.1 ZbD
 .exact YbU Y.2 ZbD
 .have:=h.b.ex t M i K
  show 0<=t.m i/\t.m i<=65535;omega
 .exact h.z t M i ZbD,by rw[Yar];have:=h.b.len;omega⟩
theorem VC(h:n<128):(Bv n).length=1:=by
 rw[Bv,Yan h];rfl
theorem QA{E:Type}{e:E->List Nat}{B:Nat}:∀{l:List E},(∀x∈l,(e x).length<=B)->(l.flatMap e).length<=l.length*B
 |[],_=>by simp
 |x::l,h=>by
  rw[Ydd,Yaa,Yav,YcW];have A:=h x (Ybn ..);have C:=QA (l:=l) λy O=>h y (Ybc _ O);omega
theorem Qx{b:Bool}{l:List Nat}{N:Nat}(h:l.length<=N)(R:N<=60):(Fw b l).length<=1+4*N:=by
 unfold Fw;rw[Yaa,VC (by split<;>omega)];have:=QA (e:=Cw) (B:=4) (l:=l) λx _=>by simp[Cw]
 omega
theorem A78{q:RQ}(A:q.l.length<=n)(B:q.l'.length<=n)(R:n<=60):(CC q).length<=2+8*n:=by
 unfold CC;rw[Yaa];have:=Qx (b:=q.b) A R;have:=Qx (b:=q.b') B R;omega
theorem LK{A:Type}{e:A->List Nat}{f:Nat->A}{B:Nat}(h:∀i,i<8->(e (f i)).length<=B):(Jt e f).length<=8*B:=by
 unfold Jt;have:=QA (e:=λi=>e (f i)) (B:=B) (l:=List.range 8) λi K=>h i (YaZ.1 K);rwa [Yev]at this
theorem FF{A:Type}{e:A->List Nat}{B:Nat}{l:List A}(J:l.length<128)(h:∀x∈l,(e x).length<=B):(Br e l).length<=1+l.length*B:=by
 unfold Br;rw[Yaa,VC J];have:=QA h;omega
theorem MP.len{N:Nat}{P:List Tm}(h:MP N P)(R:N<=60):(CB (P.map EC)).length<=31+24*N:=by
 have J:=h.b.len
 have A := FF (e := Es) (B := 10 + 8 * N) (l := P.map EC) (by rw [Yar]; omega) fun r X => by
  obtain⟨t,M,rfl⟩:=YaA.1 X;have Y:=h.b.sz t M;unfold Es;rw[Yaa,Yaa];have H:=Qx (b:=(EC t).b) (l:=(EC t).l) (N:=N) Y.1 R;have C:=Qx (b:=(EC t).b') (l:=(EC t).l') (N:=N) Y.2 R
  have O:=LK (e:=λz=>Bv (u64 z)) (f:=(EC t).m) (B:=1) λi K=>by
   have E:=h.b.ex t M i K;show(Bv (u64 (t.m i))).length<=1;rw[VC (by unfold u64;omega)];exact Yah _
  omega
 have B:(P.map EC).length*(10+8*N)<=3*(10+8*N):=YaW (by rw[Yar];exact J) (Yah _);show(Br Es (P.map EC)).length<=_;omega
def ovC(R:List (Nat->Int)):Bool:=Nat.ble R.length 24&&(List.range R.length).all λk=>(List.range 8).all λj=>decide (-1000<=FX R k j)&&decide (FX R k j<=1000)&&(!decide (FX R k j<0)||seenTo R k j)
theorem A9n{R:List (Nat->Int)}(h:ovC R=true):OValid R:=by
 unfold ovC at h;simp only[Yam,YdW]at h;refine⟨h.1,λk j C a=>?_⟩;have A:=Yaj.1 (Yaj.1 h.2 k (YaZ.2 C)) j (YaZ.2 a);simp only[Yam,Ybb,Ybg,Bool.not_eq_true',Ydx]at A;exact⟨A.1.1,A.1.2,λf=>A.2.resolve_left λh=>h f⟩
theorem A97:∀z,z<256->ovC (CS z)=true:=ZjC
theorem UU{z:Nat}(h:z<256):OValid (CS z):=A9n (A97 z h)
theorem A06{m i:Nat}(x:m<256)(K:8<=i):BW m i=0:=by
 unfold BW;have B:2^8<=2^i:=Ybk ZbH K
 have A:m >>> i=0:=by
  rw[Yeo];exact YbI ZbD
 show((m >>> i%2:Nat):Int)=0;simp[A]
theorem A7q{k i:Nat}(h:i≠k):DY k i=0:=by simp[DY,h]
theorem TP:∀(n:Nat),n<=7->∀r∈Gk n,∀i,8<=i->r i=0
 |0,_,r,X,_,_=>by simp[Gk]at X
 |n+1,f,r,X,i,K=>by
  unfold Gk at X;rcases YaK.1 X with rfl | X
  .exact A7q ZbD
  .exact TP n ZbD r X i K
theorem TQ:∀r∈revRows,∀i,8<=i->r i=0:=λr X i K=>by
 unfold revRows at X;rcases YaK.1 X with rfl | X
 .exact A06 ZbH K
 .exact TP 7 (Yah _) r X i K
theorem A4N(h:vq.length<=8)(K:8<=n):A4O vq n=0:=by
 unfold A4O;rw[Yab,YbF ZbD];rfl
theorem A96:∀r∈CS n,∀i,8<=i->r i=0:=λr X i K=>by
 unfold CS at X;split at X
 .cases X
 split at X
 .rw [YaC.1 X];exact A06 ZbH K
 split at X
 .exact TQ r X i K
 split at X
 .rw [YaC.1 X];exact A4N ZbH K
 split at X
 .simp only[YaK,YeA,or_false]at X
  rcases X with rfl | rfl<;>exact A4N ZbH K
 .rcases YaK.1 X with rfl | X
  .exact A06 ZbD K
  .exact TQ r X i K
theorem UV(h:n<256):∀r∈CS n,In8 r (-1000) 1000:=(UU h).in8
theorem A1E(h:n<256):LZ (Fz IW) (CS n):=⟨λr X i K=>by
 have:=UV h r X i K;unfold IW;omega,by have:=LE n;omega⟩
theorem A1D(h:n<256):OrB (CS n):=⟨λr X=>⟨λi K=>by
 have:=UV h r X i K;unfold IB;omega,λi K=>A96 r X i K⟩,by have:=LE n;omega⟩
theorem A9t(h:n<16384):(Bv n).length<=2:=by
 rw[Bv];split
 .simp
 .rw [Yav, VC ZbD]
  exact Yah _
theorem Kk{z:Int}(A:-8000<=z)(B:z<=8000):(Bo z).length<=2:=by
 unfold Bo RF;refine A9t ?_;split<;>omega
theorem Xd{z:Nat}(h:z<256):(Cs (CS z)).length<=161:=by
 have J:=LE z
 have A := FF (e := Gi) (B := 16) (l := CS z) ZbD fun r X => LK (B := 2) fun i K => by
  have:=UV h r X i K;exact Kk ZbD ZbD
 have B:(CS z).length*16<=10*16:=YaW J (Yah _);show(Br Gi (CS z)).length<=_;omega
theorem Zf(h:RSz vA n)(R:n<=10000):QZ (LJ vA):=⟨⟨BG _,Yat h.1 R⟩,⟨BG _,Yat h.2 R⟩⟩
theorem Zg(h:RSz vA n)(R:n<=10000):QB (LJ vA):=⟨⟨BG _,YbU h.1 ZbD⟩,⟨BG _,YbU h.2 ZbD⟩⟩
theorem Nm(h:RSz vA n)(R:n<=60):(CC (LJ vA)).length<=2+8*n:=A78 h.1 h.2 R
theorem Xj{z:Int}(A:-1000<=z)(B:z<=1000):RSz ((z:Int):Rat) 1:=Jr ZbD ZbD
def Sw(V:List Int)(k i:Nat):RQ×RQ:=if i<8 then Ee V k i else default
theorem A5r(e:I8 vq)(k i:Nat):RSz (loB vq k i) 2/\RSz (loB vq k i+wiB vq k) 5/\loB vq k i<=loB vq k i+wiB vq k:=by
 have A:=Cj e (k+i);have B:=Cj e k;have a:RSz (loB vq k i) 2:=NB ZbD ZbD ZbD ZbD;have b:RSz (wiB vq k) 2:=NB ZbD ZbD ZbD ZbD
 have c:0<=wiB vq k:=by
  unfold wiB;rw[Rat.divInt_nonneg_iff_of_pos_right ZbH];omega
 refine⟨a,a.add b,?_⟩;have:=(Rat.add_le_add_left (c:=loB vq k i)).2 c;rwa [Rat.add_zero]at this
theorem A7Z(e:I8 vq)(k i:Nat):(∃p,(Ee vq k i).1=LJ p/\RSz p 5)/\∃p,(Ee vq k i).2=LJ p/\RSz p 5:=by
 have h:=A5r e k i;unfold Ee;split
 .exact ⟨⟨_,rfl,h.1.mono ZbH⟩,⟨_,rfl,h.2.1⟩⟩
 .exact ⟨⟨_,rfl,(Xj (z:=0) ZbH ZbH).mono ZbH⟩,⟨_,rfl,(Xj (z:=0) ZbH ZbH).mono ZbH⟩⟩
theorem A2f(e:I8 vq)(k i:Nat):IvP (Ee vq k i):=by
 have h:=A5r e k i;unfold Ee;split
 .refine ⟨Oc _,Oc _,?_⟩
  show IC (Oj (LJ _)) (Oj (LJ _))<=0;rw[Ox,Ox,A1O];exact h.2.2
 .refine ⟨Oc _,Oc _,?_⟩
  show IC (Oj (LJ _)) (Oj (LJ _))<=0;rw[A1O];exact Rat.le_refl
theorem A5T(A:I8 vq)(k:Nat):BxP 2 (Sw vq k):=λi K=>by
 have e:Sw vq k i=Ee vq k i:=Yan K;unfold A6F;rw[e];refine⟨λ_=>A2f A k i,λB=>?_⟩;have s:Ee vq k i=zI:=Yai ZbD;rw[s];exact⟨⟨Oc _,Ox _⟩,⟨Oc _,Ox _⟩⟩
theorem LX(e:I8 vq)(k i:Nat):VZ (Ee vq k i)/\VB (Ee vq k i)/\(GC (Ee vq k i)).length<=84:=by
 obtain⟨⟨p,G,Y⟩,⟨q,l,M⟩⟩:=A7Z e k i;refine⟨⟨by rw[G];exact Zf Y ZbH,by rw[l];exact Zf M ZbH⟩,⟨by rw[G];exact Zg Y ZbH,by rw[l];exact Zg M ZbH⟩,?_⟩;unfold GC;rw[Yaa,G,l];have:=Nm Y ZbH;have:=Nm M ZbH;omega
theorem LW(A:I8 vq)(k:Nat):Fz VZ (Sw vq k)/\Oct VB (Sw vq k)/\(GQ (Sw vq k)).length<=672:=by
 have e:∀i,i<8->Sw vq k i=Ee vq k i:=λi K=>Yan K;refine⟨λi K=>?_,⟨λi K=>?_,λi K=>Yai ZbD⟩,?_⟩
 .rw [e i K];exact(LX A k i).1
 .rw [e i K];exact(LX A k i).2.1
 .exact LK (e:=GC) (B:=84) λi K=>by rw[e i K];exact(LX A k i).2.2
def Srd(l:List (List Tm)):Prop:=∀k,k+1<l.length->CW (l.getD k default) (l.getD (k+1) default)<0
theorem XX{l:List (List Tm)}{a k:Nat}(p:a<=l.length):(l.take a++vb::l.drop a).getD k default=if k<a then l.getD k default else if k=a then vb else l.getD (k-1) default:=by
 have J:(l.take a).length=a:=ZgN
 rw[Yab];by_cases A:k<a
 .rw [Yan A,Yau ZbD,YaJ,Yan A,Yab]
 .rw [Yai A, Yal ZbD, J]
  by_cases B:k=a
  .subst B
   rw[Yan rfl,Ydo];rfl
  .rw [Yai B, show k-a=(k-a-1)+1 by omega, YcR, YbO, Yab]
   congr 2;omega
theorem A5v(h:Srd vM):Srd (GH p vM vb):=by
 unfold GH;split
 .exact h
 .rename_i f
  have E:=Vk vb vM;intro k C;have q:(vM.take (FC vb vM)++vb::vM.drop (FC vb vM)).length=vM.length+1:=Zip
  rw[q]at C;rw[XX E,XX E];have Q:=λj=>Vj vb (l:=vM) (k:=j);have m:=Vl vb (l:=vM);generalize FC vb vM=a at *;by_cases A:k+1<a
  .rw [Yan ZbD, Yan A]
   exact h k ZbD
  .by_cases B:k+1=a
   .rw [Yan ZbD, Yai A, Yan B]
    exact Q k ZbD
   .by_cases L:k=a
    .rw [Yai ZbD, Yan L, Yai A, Yai B]
     subst L;rw[YbV];have F:¬CW (vM.getD k default) vb<0:=m ZbD;have T:JF (vM.getD k default) vb≠true:=λe=>f (.inr (.inr ⟨by omega,e⟩));rw[<-A2N]at T;have o:CW (vM.getD k default) vb≠0:=λe=>T (Yak e);have:=Xv (vM.getD k default) vb;omega
    .rw [Yai ZbD, Yai L, Yai A, Yai B, YbV]
     have:=h (k-1) ZbD;rwa [show k-1+1=k by omega]at this
theorem Xb(plain:Bool)(L:List (List Tm)):∀k,k<=L.length->Srd (KI plain L k)
 |0,_=>λk C=>by simp[KI]at C
 |k+1,h=>by
  rw[JC plain L ZbD];exact A5v (Xb plain L k ZbD)
theorem UQ{plain:Bool}{L:List (List Tm)}{q:List Tm}:∀{k},k<=L.length->q∈KI plain L k->q.length≠0/\(plain=true->HV q≠0)
 |0,_,h=>by simp[KI]at h
 |k+1,C,h=>by
  rw[JC plain L ZbD]at h;unfold GH at h;split at h
  .exact UQ ZbD h
  .rename_i f
   have F:q∈KI plain L k->q.length≠0/\(plain=true->HV q≠0):=λh=>UQ ZbD h;rcases YbP.1 h with h | h
   .exact F (Ybr h)
   .rcases YaK.1 h with h | h
    .rw [h]
     exact⟨λe=>f (.inl e),λG e=>f (.inr (.inl ⟨G,e⟩))⟩
    .exact F (Ych h)
theorem A7F(h:vL∈vb):CV vL.m 8<=HV vb:=by
 have E:∀(vb:List Tm) (a:Int),a<=vb.foldl (λd vL=>max d (CV vL.m 8)) a:=by
  intro vb
  induction vb with
  |nil=>intro a;exact YbL _
  |cons vL vb A=>
   intro a;have:=A (max a (CV vL.m 8));show a<=vb.foldl _ (max a (CV vL.m 8));omega
 have:∀(vb:List Tm) (a:Int),vL∈vb->CV vL.m 8<=vb.foldl (λd vL=>max d (CV vL.m 8)) a:=by
  intro vb
  induction vb with
  |nil=>intro a h;cases h
  |cons u vb A=>
   intro a h;rcases YaK.1 h with h | h
   .subst h
    have:=E vb (max a (CV vL.m 8));show CV vL.m 8<=vb.foldl _ (max a (CV vL.m 8));omega
   .exact A _ h
 exact this vb _ h
theorem MP.deg0(h:MP n vb)(c:vb.length≠0):0<=HV vb:=by
 have x:BA vb 0∈vb:=by
  rw[BA,Yab,Yac ZbD];exact Zkq
 have A:=A7F x;have B:=(IV (h.b.ex _ x) 8 (Yah _)).1;omega
theorem A4x(plain:Bool){L:List (List Tm)}(p:∀P∈L,MP 9 P)(J:L.length<=6)(y:Int)(B:y=if plain=true then 1 else 0):Mw 2 y (rQ (Jp plain L))/\(Jp plain L).length<=6/\∀P∈Jp plain L,MP 37 P:=by
 have q:=KH plain L L.length (Yah _)
 have F:∀P∈Jp plain L,MP 37 P:=λP M=>by
  obtain⟨E,c,rfl⟩:=Ni (Yah _) M;exact(p E c).nrm
 have N:=Xb plain L L.length (Yah _)
 have m:∀i,i<(Jp plain L).length->Mk (pAt (rQ (Jp plain L)) i)=(Jp plain L).getD i default/\pAt (rQ (Jp plain L)) i=((Jp plain L).getD i default).map EC:=λi K=>by
  have e:pAt (rQ (Jp plain L)) i=((Jp plain L).getD i default).map EC:=by
   unfold pAt rQ;rw[Yab,Yax,Yab,Yac K];rfl
  exact⟨by rw[e,KF],e⟩
 refine⟨⟨by rw[rQ,Yar];exact Yat q ZbD,λi K=>?_⟩,Yat q J,F⟩;rw[rQ,Yar]at K
 have x:(Jp plain L).getD i default∈Jp plain L:=by
  rw[Yab,Yac K];exact Zkq
 have C:=UQ (Yah _) x;obtain⟨E,c,I⟩:=Ni (Yah _) x;refine⟨⟨?_,?_,?_⟩,λX=>?_⟩
 .rw [(m i K).2]
  exact(F _ x).bd ZbH
 .rw [(m i K).1,B]
  have A:=(F _ x).deg0 C.1;split
  .rename_i G
   have:=C.2 G;omega
  .exact A
 .rw [(m i K).1,I,A58 _ (p E c).b.can]
  exact LG.2 (SameL.refl _)
 .rw [(m i K).1, (m (i-1) ZbD).1]
  have:=N (i-1) (by show i-1+1<(Jp plain L).length;omega);rwa [show i-1+1=i by omega]at this
def ZL(f:Nat->RQ×RQ):Nat->RQ×RQ:=λi=>if i<8 then f i else default
noncomputable def KT (N:Nat) (L:List (Nat×List (Nat->Int))) (V:List Int):Clm:=
 ⟨(Cx N L V).kind,(Cx N L V).p,(Cx N L V).n,(Cx N L V).d,(Cx N L V).r,(Cx N L V).o,(Cx N L V).l,(Cx N L V).s,(Cx N L V).b.map ZL⟩
theorem A2e(b:List (Nat->RQ×RQ)):Gb (b.map ZL)=Gb b:=by
 unfold Gb;rw[Ycc];congr 1
theorem A5k(N:Nat)(L:List (Nat×List (Nat->Int)))(V:List Int):EE (KT N L V)=EE (Cx N L V):=by
 unfold EE KT
 dsimp only
 rw[A2e]
structure ClIn(V:List Int)(c:Clm):Prop where
 kd:1<=c.kind/\c.kind<=13
 p:∃P,c.p=P.map EC/\MP 9 P
 n:-1<=c.n/\c.n<=1000
 d:-1<=c.d/\c.d<=1000
 r:-1<=c.r/\c.r<=1000
 o:∃z,z<256/\c.o=CS z
 l:∃Q,c.l=rQ Q/\(∀P∈Q,MP 9 P)/\Q.length<=3
 s:(∀z∈c.s,-1<=z/\z<=1)/\c.s.length<=3
 b:(∀g∈c.b,∃k,g=Sw V k)/\c.b.length<=3
theorem TS(R:n<=10000)(h:∀P∈vM,MP n P)(J:vM.length<=40000):LZ PZ (rQ vM):=⟨λp G=>by
 obtain⟨P,M,rfl⟩:=YaA.1 G;exact(h P M).pz R,by rw[rQ,Yar];exact J⟩
theorem TT(R:n<=10000)(h:∀P∈vM,MP n P)(J:vM.length<=40000):PsB (rQ vM):=⟨λp G=>by
 obtain⟨P,M,rfl⟩:=YaA.1 G;exact(h P M).po R,by rw[rQ,Yar];omega⟩
theorem OC{N B:Nat}(R:N<=60)(h:∀P∈vM,MP N P)(J:vM.length<=B)(E:B<128):(Bf (rQ vM)).length<=1+B*(31+24*N):=by
 have l:(rQ vM).length<=B:=by rw[rQ,Yar];exact J
 have A := FF (e := CB) (B := 31 + 24 * N) (l := rQ vM) ZbD fun p G => by
  obtain⟨P,M,rfl⟩:=YaA.1 G;exact(h P M).len R
 have C:(rQ vM).length*(31+24*N)<=B*(31+24*N):=YaW l (Yah _);show(Br CB (rQ vM)).length<=_;omega
theorem ClIn.z{c:Clm}(h:ClIn vq c)(e:I8 vq):ClZ c:=by
 obtain⟨P,G,M⟩:=h.p;obtain⟨z,o,q⟩:=h.o;obtain⟨Q,l,B,J⟩:=h.l;have k:=h.kd;have n:=h.n;have d:=h.d;have r:=h.r;refine⟨by unfold IW;omega,by rw[G];exact M.pz ZbH,by unfold IW;omega,by unfold IW;omega,by unfold IW;omega,by rw[q];exact A1E o,by rw[l];exact TS ZbH B ZbD,⟨λz o=>?_,by have:=h.s.2;omega⟩,⟨λg A=>?_,by have:=h.b.2;omega⟩⟩
 .have:=h.s.1 z o
  unfold IW;omega
 .obtain ⟨k,rfl⟩:=h.b.1 g A
  exact(LW e k).1
theorem ClIn.cb{c:Clm}(h:ClIn vq c)(e:I8 vq):ClB c:=by
 obtain⟨P,G,M⟩:=h.p;obtain⟨z,o,q⟩:=h.o;obtain⟨Q,l,B,J⟩:=h.l;have k:=h.kd;have n:=h.n;have d:=h.d;have r:=h.r;refine⟨by unfold IB;omega,by rw[G];exact M.po ZbH,by unfold IB;omega,by unfold IB;omega,by unfold IB;omega,by rw[q];exact A1D o,by rw[l];exact TT ZbH B ZbD,⟨λz o=>?_,by have:=h.s.2;omega⟩,⟨λg A=>?_,by have:=h.b.2;omega⟩⟩
 .have:=h.s.1 z o
  unfold IB;omega
 .obtain ⟨k,rfl⟩:=h.b.1 g A
  exact(LW e k).2.1
theorem ClIn.len{c:Clm}(h:ClIn vq c)(e:I8 vq):(Ii c).length<=3300:=by
 obtain⟨P,G,M⟩:=h.p;obtain⟨z,o,q⟩:=h.o;obtain⟨Q,l,B,J⟩:=h.l;have k:=h.kd;have n:=h.n;have d:=h.d;have r:=h.r;have H:=Kk (z:=c.kind) ZbD ZbD;have C:=Kk (z:=c.n) ZbD ZbD;have O:=Kk (z:=c.d) ZbD ZbD;have N:=Kk (z:=c.r) ZbD ZbD;have I:=M.len ZbH;have K:=Xd o;have R:=OC ZbH B J ZbH
 have L := FF (e := Bo) (B := 2) (l := c.s) (by have := h.s.2; omega) fun z o => by
  have:=h.s.1 z o;exact Kk ZbD ZbD
 have S := FF (e := GQ) (B := 672) (l := c.b) (by have := h.b.2; omega) fun g A => by
  obtain⟨k,rfl⟩:=h.b.1 g A;exact(LW e k).2.2
 have F:c.s.length*2<=3*2:=YaW h.s.2 (Yah _);have E:c.b.length*672<=3*672:=YaW h.b.2 (Yah _);unfold Ii;rw[G,q,l];simp only[Yaa];have V:(EQ c.b).length=(Br GQ c.b).length:=rfl;omega
theorem VS(kind n d r:Int){P:List Tm}(M:MP 9 P){z:Nat}(o:z<256)(h:∀P∈vM,MP 9 P)(J:vM.length<=3){s:List Int}(Y:∀z∈s,-1<=z/\z<=1)(E:s.length<=3){N:Nat}(R:N<=3)(A:1<=kind/\kind<=13)(B:-1<=n/\n<=1000)(L:-1<=d/\d<=1000)(S:-1<=r/\r<=1000):ClIn vq ⟨kind,P.map EC,n,d,r,CS z,rQ vM,s,((List.range N).map (Ee vq)).map ZL⟩:=
 ⟨A,⟨P,rfl,M⟩,B,L,S,⟨z,o,rfl⟩,⟨vM,rfl,h,J⟩,⟨Y,E⟩,λg C=>by
  obtain⟨f,t,rfl⟩:=YaA.1 C;obtain⟨k,_,rfl⟩:=YaA.1 t;exact⟨k,rfl⟩,by simpa using R⟩
theorem A1R{N:Nat}(h:∀P∈vM,MP N P)(i n:Nat):∀P∈pQ vM i n,MP N P:=λP M=>by
 obtain⟨j,_,rfl⟩:=YaA.1 M;split
 .exact MP.nil
 .rename_i c
  have Q:(i+j)%vM.length<vM.length:=YaT _ ZbD;exact Zhu
theorem Vq(Q:List (List Tm))(i n:Nat):(pQ Q i n).length=n:=by simp[pQ]
theorem Nl(L:List (Nat×List (Nat->Int))):∀P∈AZ L,MP 9 P:=λ_ h=>A8f h
theorem Abf(L:List (Nat×List (Nat->Int))):MP 9 (pC L):=by
 unfold pC;split
 .exact MP.nil
 .rename_i c
  have Q:2%(AZ L).length<(AZ L).length:=YaT _ ZbD;rw[Yab,Yac Q];exact Nl L _ (Ybt Q)
theorem Nw{N:Nat}(h:∀P∈vM,MP N P):My 2 (rQ vM):=λp G=>by
 obtain⟨P,M,rfl⟩:=YaA.1 G;exact(h P M).bd ZbH
theorem YJ (e : I8 vq) {N : Nat} (R : N ≤ 3) : SS 2 (((List.range N).map (Ee vq)).map ZL) := ⟨by simp; omega, fun g P => by
 obtain⟨f,t,rfl⟩:=YaA.1 P;obtain⟨k,_,rfl⟩:=YaA.1 t;exact A5T e k⟩
theorem A8x(V:List Int)(N:Nat):∀z∈(List.range N).map (λi=>(AR V i%128)%3-1),-1<=z/\z<=1:=λz o=>by
 obtain⟨i,_,rfl⟩:=YaA.1 o;omega
theorem A2Z(N:Nat)(L:List (Nat×List (Nat->Int)))(V:List Int)(e:I8 V):ClIn V (KT N L V)/\∀K:Cor,K.n=2->Dc K (KT N L V):=by
 have A:=Cj e 1;have B:=Cj e 3;have x:N%13<13:=YaT _ ZbH;have G:=Abf L;have R:(AR V 1%8%4).toNat<=3:=by omega
 have l:=A1R (Nl L) 1 (AR V 1%8%4).toNat;have X:=Vq (AZ L) 1 (AR V 1%8%4).toNat;have s:∀P∈([]:List (List Tm)),MP 9 P:=λP h=>by cases h
 have v:∀z∈([]:List Int),-1<=z/\z<=1:=λz h=>by cases h
 unfold KT Cx;by_cases C:N%13=0\/N%13=1\/N%13=9
 .simp only[Yan C]
  refine⟨VS (z:=0) (N:=0) _ _ _ _ G ZbH s ZbH v ZbH ZbH ZbD ZbH ZbH ZbH,λK f=>?_⟩;rw[Dc,Yan ZbW,f];exact⟨G.bd ZbH,⟨rfl,rfl,rfl⟩,rfl,rfl,rfl,rfl⟩
 simp only[Yai C];by_cases m:N%13=3
 .simp only[Yan m]
  refine⟨VS (N:=0) _ _ _ _ (P:=[]) MP.nil ZbD l ZbD v ZbH ZbH ZbH ZbH ZbH ZbH,λK f=>?_⟩;rw[Dc,Yai ZbW,Yai ZbW,Yan rfl,f];exact⟨⟨UU ZbD,by rw[rQ,Yar];omega,Nw l⟩,⟨rfl,rfl,rfl⟩,rfl,rfl,rfl⟩
 simp only[Yai m];by_cases T:N%13=4
 .simp only[Yan T]
  refine⟨VS (z:=0) (N:=0) _ _ _ _ (P:=[]) MP.nil ZbH s ZbH v ZbH ZbH ZbH ZbD ZbD ZbH,λK f=>?_⟩;rw[Dc,Yai ZbW,Yai ZbW,Yai ZbW,Yan rfl,f];exact⟨⟨by dsimp only;omega,by dsimp only;omega,by unfold SmI;dsimp only;omega⟩,rfl,rfl,rfl,rfl,rfl,rfl⟩
 simp only[Yai T];by_cases Z:N%13=5
 .simp only[Yan Z]
  refine⟨VS (z:=0) (N:=0) _ _ _ _ (P:=[]) MP.nil ZbH s ZbH v ZbH ZbH ZbH ZbD ZbD ZbD,λK f=>?_⟩;rw[Dc,Yai ZbW,Yai ZbW,Yai ZbW,Yai ZbW,Yan rfl];exact⟨⟨by dsimp only;omega,by dsimp only;omega,by dsimp only;omega,by unfold SmI;dsimp only;omega⟩,rfl,rfl,rfl,rfl,rfl⟩
 simp only[Yai Z];by_cases y:N%13=6
 .simp only[Yan y]
  refine⟨VS (z:=0) _ _ _ _ (P:=[]) MP.nil ZbH s ZbH v ZbH R ZbH ZbH ZbH ZbH,λK f=>?_⟩;rw[Dc,Yai ZbW,Yai ZbW,Yai ZbW,Yai ZbW,Yai ZbW,Yan rfl,f];exact⟨YJ e R,⟨rfl,rfl,rfl⟩,rfl,rfl,rfl,rfl⟩
 simp only[Yai y];by_cases E:N%13=7
 .simp only[Yan E]
  refine⟨VS (z:=0) _ _ _ _ G ZbH s ZbH (A8x V _) Zip R ZbH ZbH ZbH ZbH,λK f=>?_⟩;rw[Dc,Yai ZbW,Yai ZbW,Yai ZbW,Yai ZbW,Yai ZbW,Yai ZbW,Yan rfl,f];exact⟨⟨G.bd ZbH,YJ e R,by simp,A8x V _⟩,⟨rfl,rfl,rfl⟩,rfl,rfl⟩
 simp only[Yai E];by_cases I:N%13=10
 .simp only[Yan I]
  refine⟨VS (z:=0) (N:=0) _ _ _ _ (P:=[]) MP.nil ZbH l ZbD v ZbH ZbH ZbH ZbH ZbH ZbH,λK f=>?_⟩;rw[Dc,Yai ZbW,Yai ZbW,Yai ZbW,Yai ZbW,Yai ZbW,Yai ZbW,Yai ZbW,Yan rfl,f];exact⟨⟨by rw[rQ,Yar];omega,Nw l⟩,⟨rfl,rfl,rfl⟩,rfl,rfl,rfl,rfl⟩
 simp only[Yai I];by_cases F:N%13=11\/N%13=12
 .simp only[Yan F]
  refine⟨VS (z:=0) (N:=0) _ _ _ _ (P:=[]) MP.nil ZbH s ZbH v ZbH ZbH ZbD ZbD ZbH ZbH,λK f=>?_⟩;rw[Dc,Yai ZbW,Yai ZbW,Yai ZbW,Yai ZbW,Yai ZbW,Yai ZbW,Yai ZbW,Yai ZbW,Yan ZbW];exact⟨by unfold SmI;dsimp only;omega,⟨rfl,rfl⟩,rfl,rfl,rfl,rfl,rfl⟩
 simp only[Yai F];refine⟨VS (z:=0) (N:=0) _ _ _ _ (P:=[]) MP.nil ZbH s ZbH v ZbH ZbH ZbD ZbH ZbH ZbH,λK f=>?_⟩;rw[Dc,Yai ZbW,Yan ZbW];exact⟨⟨rfl,rfl,rfl⟩,rfl,rfl,rfl,rfl,rfl⟩
theorem Abh(L:List (Nat×List (Nat->Int)))(V:List Int):nK L V<=2:=by
 unfold nK;omega
theorem A5h(L:List (Nat×List (Nat->Int)))(V:List Int):Og (GN L V)/\CZ (GN L V)/\CoB (GN L V)/\(FS (GN L V)).length<=12000/\(GN L V).e.length<=2:=by
 have X:=Xm L;have f:=Abh L V;have A:=A4x false (L:=(AZ L).take (nK L V)) (λP M=>Nl L P (Ybr M)) ZgN 0 rfl;have B:=A4x true (L:=((AZ L).take (min (AZ L).length (nK L V+1))).drop (nK L V)) (λP M=>Nl L P (Ybr (Ych M))) ZeU 1 rfl
 have E:(GN L V).e.length<=2:=by
  have C:=KH false ((AZ L).take (nK L V)) _ (Yah _);have S:((AZ L).take (nK L V)).length<=2:=ZgN
  show(rQ _).length<=2;rw[rQ,Yar];exact Yat C S
 refine⟨⟨by show(1:Int)<=2;decide,by show(2:Int)<=4;decide,A.1,B.1⟩,⟨by show IW 2;unfold IW;decide,TS ZbH A.2.2 ZbD,TS ZbH B.2.2 ZbD⟩,⟨by show IB 2;unfold IB;decide,TT ZbH A.2.2 ZbD,TT ZbH B.2.2 ZbD⟩,?_,E⟩;have a:=OC ZbH A.2.2 A.2.1 ZbH;have b:=OC ZbH B.2.2 B.2.1 ZbH;have c:=Kk (z:=2) ZbH ZbH;unfold FS;simp only[Yaa];show(Bo 2).length+(Bf (rQ _)).length+(Bf (rQ _)).length<=_;omega
open Classical
def GO(κ:Int)(Q:List (List Tm))(V:List Int)(m c:Nat):Crt:=
 ⟨(DJ κ Q V m c).n,(DJ κ Q V m c).cof,(DJ κ Q V m c).g,(DJ κ Q V m c).o,(DJ κ Q V m c).c,(DJ κ Q V m c).q,(DJ κ Q V m c).s,(DJ κ Q V m c).r,(DJ κ Q V m c).a,(DJ κ Q V m c).sq,(DJ κ Q V m c).x,(DJ κ Q V m c).b.map ZL⟩
theorem A5j(T:Int)(Q:List (List Tm))(V:List Int)(m c:Nat):DD (GO T Q V m c)=DD (DJ T Q V m c):=by
 rw[VP,VP];unfold GO
 dsimp only
 rw[A2e]
theorem A4n(Q:List Rat):∀n,UN Q n=0\/Q.getD (UN Q n-1) default≠0
 |0=>.inl rfl
 |n+1=>by
  unfold UN;split
  .exact A4n Q n
  .rename_i h
   exact .inr (by rw[YbV];exact h)
theorem ZR(e:I8 vq)(n:Nat):(∀q∈KC vq n,RSz q 1)/\(KC vq n).length<=n+1:=by
 constructor
 .intro q l
  obtain⟨z,o,rfl⟩:=YaA.1 (Ybr l);have:=e z (Ybr o);exact Xj ZbD ZbD
 .unfold KC Ta
  rw[YaO,Yar,YaO];omega
theorem A4B(A:I8 vq)(f:n<=10):ShP ((KC vq n).map LJ):=by
 refine⟨by rw[Yar];have:=(ZR A n).2;omega,λq l=>?_,?_⟩
 .obtain ⟨p,_,rfl⟩:=YaA.1 l
  exact Oc p
 .rw [Yar]
  have i:=A4o (Ta vq n) (Ta vq n).length
  have J:(KC vq n).length=UN (Ta vq n) (Ta vq n).length:=by
   unfold KC;exact ZgN
  rcases A4n (Ta vq n) (Ta vq n).length with h | h
  .exact .inl (by rw[J];exact h)
  .by_cases c:(KC vq n).length=0
   .exact .inl c
   .refine .inr ?_
    have Q:(KC vq n).length-1<(KC vq n).length:=by omega
    have e:(KC vq n).getD ((KC vq n).length-1) default=(Ta vq n).getD (UN (Ta vq n) (Ta vq n).length-1) default:=by
     rw[J];unfold KC;rw[Yab,YaJ,Yan ZbD,Yab]
    rw[Yab,Yax,Yac Q];show Oj (LJ _)≠0;rw[Ox];rw[Yab,Yac Q]at e;have e:(KC vq n)[(KC vq n).length-1]=(Ta vq n).getD (UN (Ta vq n) (Ta vq n).length-1) default:=e;rw[e];exact h
theorem Xl(Q:List (List Tm))(c k:Nat):(tQ (Gz Q c k)).length=k:=by simp[tQ,Gz]
theorem A1H(h:∀P∈vM,MP 9 P)(c k:Nat):∀l∈tQ (Gz vM c k),∃R,l=rQ R/\(∀P∈R,MP 9 P)/\R.length=c:=λl J=>by
 obtain⟨R,E,rfl⟩:=YaA.1 J;obtain⟨i,_,rfl⟩:=YaA.1 E;exact⟨_,rfl,A1R h _ _,Vq _ _ _⟩
theorem UP (h : ∀ P ∈ vM, MP 9 P) (c k : Nat) : Jx 2 ((k : Nat) : Int) ((c : Nat) : Int) (tQ (Gz vM c k)) := ⟨by rw [Xl], fun l J => by
 obtain⟨R,rfl,E,I⟩:=A1H h c k l J;exact⟨by rw[rQ,Yar,I],Nw E⟩⟩
structure TIn(t:List (List (List RTm))):Prop where
 e:∀l∈t,∃R,l=rQ R/\(∀P∈R,MP 9 P)/\R.length<=3
 n:t.length<=7
theorem TIn.nil:TIn []:=⟨λl h=>ZdC,by decide⟩
theorem Wc(h:∀P∈vM,MP 9 P){c k:Nat}(I:c<=3)(C:k<=7):TIn (tQ (Gz vM c k)):=⟨λl J=>by
 obtain⟨R,A,B,L⟩:=A1H h c k l J;exact⟨R,A,B,by omega⟩,by rw[Xl];exact C⟩
theorem TIn.z{t:List (List (List RTm))}(h:TIn t):LZ (LZ PZ) t:=⟨λl J=>by
 obtain⟨R,rfl,B,L⟩:=h.e l J;exact TS ZbH B ZbD,by have:=h.n;omega⟩
theorem TIn.b{t:List (List (List RTm))}(h:TIn t):TaB t:=⟨λl J=>by
 obtain⟨R,rfl,B,L⟩:=h.e l J;exact TT ZbH B ZbD,by have:=h.n;omega⟩
theorem TIn.len{t:List (List (List RTm))}(h:TIn t):(BJ t).length<=5195:=by
 have A := FF (e := Bf) (B := 742) (l := t) (by have := h.n; omega) fun l J => by
  obtain⟨R,rfl,B,L⟩:=h.e l J;exact Yat (OC ZbH B L ZbH) ZbH
 have B:t.length*742<=7*742:=YaW h.n (Yah _);show(Br Bf t).length<=_;omega
structure UIn(l:List RQ):Prop where
 e:∀q∈l,∃p,q=LJ p/\RSz p 1
 n:l.length<=4
theorem UIn.nil:UIn []:=⟨λl h=>ZdC,by decide⟩
theorem UIn.sm(e:I8 vq)(f:n<=3):UIn ((KC vq n).map LJ):=⟨λq l=>by
 obtain⟨p,G,rfl⟩:=YaA.1 l;exact⟨p,rfl,(ZR e n).1 p G⟩,by rw[Yar];have:=(ZR e n).2;omega⟩
theorem UIn.z{l:List RQ}(h:UIn l):LZ QZ l:=⟨λq A=>by
 obtain⟨p,rfl,G⟩:=h.e q A;exact Zf G ZbH,by have:=h.n;omega⟩
theorem UIn.b{l:List RQ}(h:UIn l):UnB l:=⟨λq A=>by
 obtain⟨p,rfl,G⟩:=h.e q A;exact Zg G ZbH,by have:=h.n;omega⟩
theorem UIn.len{l:List RQ}(h:UIn l):(Ge l).length<=41:=by
 have A := FF (e := CC) (B := 10) (l := l) (by have := h.n; omega) fun q C => by
  obtain⟨p,rfl,G⟩:=h.e q C;exact Nm G ZbH
 have B:l.length*10<=4*10:=YaW h.n (Yah _);show(Br CC l).length<=_;omega
structure CrIn(V:List Int)(e:Crt):Prop where
 n:0<=e.n/\e.n<=64
 cof:∃Q,e.cof=rQ Q/\(∀P∈Q,MP 9 P)/\Q.length<=3
 g:∃Q,e.g=rQ Q/\(∀P∈Q,MP 9 P)/\Q.length<=3
 o:∃z,z<256/\e.o=CS z
 c:TIn e.c
 q:TIn e.q
 s:TIn e.s
 rl:∀i,-1000<=e.r.l i/\e.r.l i<=1000
 rz:∀i,8<=i->e.r.l i=0
 rq:UIn e.r.q
 rr:∀i,UIn (e.r.r i)
 r8:∀i,8<=i->e.r.r i=[]
 a:(∀x∈e.a,∃k i,x=Ee V k i)/\e.a.length<=3
 sq:(∀x∈e.sq,∃i P,x=(LJ (Rat.divInt (AR V i) 5),P.map EC)/\MP 9 P)/\e.sq.length<=3
 x:(∀x∈e.x,∃k,x=ptF V k)/\e.x.length<=3
 b:(∀g∈e.b,∃k,g=Sw V k)/\e.b.length<=3
theorem Vi(e:I8 vq)(k:Nat)(K:n<8):∃p,ptF vq k n=LJ p/\RSz p 1:=by
 unfold ptF;split
 .have:=Cj e k
  exact⟨_,rfl,Xj ZbD ZbD⟩
 .exact ⟨_,rfl,Xj ZbH ZbH⟩
theorem A4y(e:I8 vq)(i:Nat):RSz (Rat.divInt (AR vq i) 5) 2:=by
 have:=Cj e i;exact NB ZbD ZbD ZbH ZbH
theorem CrIn.z{e:Crt}(h:CrIn vq e)(B:I8 vq):CrZ e:=by
 obtain⟨I,Z,C,c⟩:=h.cof;obtain⟨J,s,F,a⟩:=h.g;obtain⟨z,o,q⟩:=h.o;have n:=h.n;refine⟨by unfold IW;omega,by rw[Z];exact TS ZbH C ZbD,by rw[s];exact TS ZbH F ZbD,by rw[q];exact A1E o,h.c.z,h.q.z,h.s.z,⟨λi _=>?_,h.rq.z,λi _=>(h.rr i).z⟩,⟨λx E=>?_,by have:=h.a.2;omega⟩,⟨λx E=>?_,by have:=h.sq.2;omega⟩,⟨λx E i K=>?_,by have:=h.x.2;omega⟩,⟨λg A=>?_,by have:=h.b.2;omega⟩⟩
 .have:=h.rl i
  unfold IW;omega
 .obtain ⟨k,i,rfl⟩:=h.a.1 x E
  exact(LX B k i).1
 .obtain ⟨i,P,rfl,M⟩:=h.sq.1 x E
  exact⟨Zf (A4y B i) ZbH,M.pz ZbH⟩
 .obtain ⟨k,rfl⟩:=h.x.1 x E
  obtain⟨p,G,Y⟩:=Vi B k K;rw[G];exact Zf Y ZbH
 .obtain ⟨k,rfl⟩:=h.b.1 g A
  exact(LW B k).1
theorem CrIn.cb{e:Crt}(h:CrIn vq e)(B:I8 vq):CrB e:=by
 obtain⟨I,Z,C,c⟩:=h.cof;obtain⟨J,s,F,a⟩:=h.g;obtain⟨z,o,q⟩:=h.o;have n:=h.n;refine⟨by unfold IB;omega,by rw[Z];exact TT ZbH C ZbD,by rw[s];exact TT ZbH F ZbD,by rw[q];exact A1D o,h.c.b,h.q.b,h.s.b,⟨⟨λi _=>?_,h.rz⟩,h.rq.b,⟨λi _=>(h.rr i).b,h.r8⟩⟩,⟨λx E=>?_,by have:=h.a.2;omega⟩,⟨λx E=>?_,by have:=h.sq.2;omega⟩,⟨λx E=>?_,by have:=h.x.2;omega⟩,⟨λg A=>?_,by have:=h.b.2;omega⟩⟩
 .have:=h.rl i
  unfold IB;omega
 .obtain ⟨k,i,rfl⟩:=h.a.1 x E
  exact(LX B k i).2.1
 .obtain ⟨i,P,rfl,M⟩:=h.sq.1 x E
  exact⟨Zg (A4y B i) ZbH,M.po ZbH⟩
 .obtain ⟨k,rfl⟩:=h.x.1 x E
  refine⟨λi K=>?_,λi K=>?_⟩
  .obtain ⟨p,G,Y⟩:=Vi B k K
   rw[G];exact Zg Y ZbH
  .unfold ptF
   exact ZjD
 .obtain ⟨k,rfl⟩:=h.b.1 g A
  exact(LW B k).2.1
theorem CrIn.len{e:Crt}(h:CrIn vq e)(B:I8 vq):(JU e).length<=22000:=by
 obtain⟨X,Z,F,c⟩:=h.cof;obtain⟨b,s,I,a⟩:=h.g;obtain⟨z,o,q⟩:=h.o;have n:=h.n;have H:=Kk (z:=e.n) ZbD ZbD;have r:=OC ZbH F c ZbH;have O:=OC ZbH I a ZbH;have N:=Xd o;have Q:=h.c.len;have R:=h.q.len;have S:=h.s.len
 have V:(Js e.r).length<=400:=by
  unfold Js;simp only[Yaa]
  have d:=LK (e:=Bo) (f:=e.r.l) (B:=2) λi _=>by
   have:=h.rl i;exact Kk ZbD ZbD
  have C:=h.rq.len;have J:=LK (e:=Ge) (f:=e.r.r) (B:=41) λi _=>(h.rr i).len;have Z:(Gi e.r.l).length=(Jt Bo e.r.l).length:=rfl;omega
 have W := FF (e := GC) (B := 84) (l := e.a) (by have := h.a.2; omega) fun x E => by
  obtain⟨k,i,rfl⟩:=h.a.1 x E;exact(LX B k i).2.2
 have f := FF (e := JD) (B := 265) (l := e.sq) (by have := h.sq.2; omega) fun x E => by
  obtain⟨i,P,rfl,M⟩:=h.sq.1 x E;unfold JD;rw[Yaa];have:=Nm (A4y B i) ZbH;have:=M.len ZbH
  dsimp only
  omega
 have j := FF (e := Pz) (B := 80) (l := e.x) (by have := h.x.2; omega) fun x E => by
  obtain⟨k,rfl⟩:=h.x.1 x E
  exact LK (e:=CC) (B:=10) λi K=>by
   obtain⟨p,G,Y⟩:=Vi B k K;rw[G];exact Nm Y ZbH
 have l := FF (e := GQ) (B := 672) (l := e.b) (by have := h.b.2; omega) fun g A => by
  obtain⟨k,rfl⟩:=h.b.1 g A;exact(LW B k).2.2
 have L:e.a.length*84<=3*84:=YaW h.a.2 (Yah _);have T:e.sq.length*265<=3*265:=YaW h.sq.2 (Yah _);have U:e.x.length*80<=3*80:=YaW h.x.2 (Yah _);have m:e.b.length*672<=3*672:=YaW h.b.2 (Yah _);have u:(EQ e.b).length=(Br GQ e.b).length:=rfl;unfold JU;rw[Z,s,q];simp only[Yaa];omega
theorem MU:Od Zy:=⟨λ_ _=>rfl,rfl,λ_ _=>rfl⟩
theorem Abo(V:List Int):gN V<=3:=by
 unfold gN;omega
theorem AaV(h:n<=3):((n*(n-1)/2:Nat):Int)=((n:Nat):Int)*(((n:Nat):Int)-1)/2:=by
 rcases(by omega:n=0\/n=1\/n=2\/n=3)with rfl | rfl | rfl | rfl<;>rfl
theorem AaZ(h:n<=3):((1+n*(n+1)/2:Nat):Int)=1+((n:Nat):Int)*(((n:Nat):Int)+1)/2:=by
 rcases(by omega:n=0\/n=1\/n=2\/n=3)with rfl | rfl | rfl | rfl<;>rfl
theorem Ab0(h:n<=3):n*(n-1)/2<=7:=by
 rcases(by omega:n=0\/n=1\/n=2\/n=3)with rfl | rfl | rfl | rfl<;>decide
theorem AaY(h:n<=3):1+n*(n+1)/2<=7:=by
 rcases(by omega:n=0\/n=1\/n=2\/n=3)with rfl | rfl | rfl | rfl<;>decide
theorem Abd(h:∀P∈vM,MP 9 P)(i:Nat):MP 9 (pP vM i):=by
 unfold pP;split
 .exact MP.nil
 .rename_i c
  have Q:i%vM.length<vM.length:=YaT _ ZbD;exact Zhu
theorem A93(h:∀P∈vM,MP 9 P)(V:List Int)(C:n<=3):(∀x∈sqL vM V n,∃i P,x=(LJ (Rat.divInt (AR V i) 5),P.map EC)/\MP 9 P)/\(sqL vM V n).length<=3:=⟨λx E=>by
 obtain⟨i,_,rfl⟩:=YaA.1 E;exact⟨i,_,rfl,Abd h i⟩,by simp[sqL];omega⟩
theorem Aaf(V:List Int)(C:n<=3):(∀x∈atL V n,∃n i,x=Ee V n i)/\(atL V n).length<=3:=⟨λx E=>by
 obtain⟨i,_,rfl⟩:=YaA.1 E;exact⟨i,0,rfl⟩,by simp[atL];omega⟩
theorem A9l(V:List Int)(C:n<=3):(∀x∈ptL V n,∃n,x=ptF V n)/\(ptL V n).length<=3:=⟨λx E=>by
 obtain⟨i,_,rfl⟩:=YaA.1 E;exact⟨i,rfl⟩,by simp[ptL];omega⟩
theorem Aa9(V:List Int)(C:n<=3):(∀g∈(bxL V n).map ZL,∃n,g=Sw V n)/\((bxL V n).map ZL).length<=3:=⟨λx E=>by
 obtain⟨f,t,rfl⟩:=YaA.1 E;obtain⟨i,_,rfl⟩:=YaA.1 t;exact⟨i+1,rfl⟩,by simp[bxL];omega⟩
theorem Sn{Q1 Q2:List (List Tm)}{z:Nat}{c q s:List (List (List RTm))}{J:List (RQ×List RTm)}{x:List (Nat->RQ)}{b:List (Nat->RQ×RQ)}(f:0<=a/\a<=64)(A:∀P∈Q1,MP 9 P)(G:Q1.length<=3)(B:∀P∈Q2,MP 9 P)(C:Q2.length<=3)(o:z<256)(I:TIn c)(l:TIn q)(Y:TIn s)(K:(∀x∈J,∃i P,x=(LJ (Rat.divInt (AR vq i) 5),P.map EC)/\MP 9 P)/\J.length<=3)(E:(∀y∈x,∃k,y=ptF vq k)/\x.length<=3)(F:(∀g∈b,∃k,g=Sw vq k)/\b.length<=3):CrIn vq ⟨a,rQ Q1,rQ Q2,CS z,c,q,s,Zy,[],J,x,b⟩:=
 ⟨f,⟨Q1,rfl,A,G⟩,⟨Q2,rfl,B,C⟩,⟨z,o,rfl⟩,I,l,Y,λi=>by show(-1000:Int)<=0/\(0:Int)<=1000;decide,λi _=>rfl,UIn.nil,λi=>UIn.nil,λi _=>rfl,⟨λx h=>ZdC,Yaw _⟩,K,E,F⟩
theorem Kl:(∀x∈([]:List (RQ×List RTm)),∃i P,x=(LJ (Rat.divInt (AR vq i) 5),P.map EC)/\MP 9 P)/\([]:List (RQ×List RTm)).length<=3:=⟨λx h=>ZdC,by decide⟩
theorem MG:(∀y∈([]:List (Nat->RQ)),∃k,y=ptF vq k)/\([]:List (Nat->RQ)).length<=3:=⟨λx h=>ZdC,by decide⟩
theorem MH:(∀g∈([]:List (Nat->RQ×RQ)),∃k,g=Sw vq k)/\([]:List (Nat->RQ×RQ)).length<=3:=⟨λx h=>ZdC,by decide⟩
theorem A4L(V:List Int)(e:I8 V)(i:Nat):-1000<=(rsM V).l i/\(rsM V).l i<=1000:=by
 have:=Cj e 5;show -1000<=(if i=0 then(1:Int)else if i=1 then AR V 5 else 0)/\(if i=0 then(1:Int)else if i=1 then AR V 5 else 0)<=1000;split
 .decide
 .split<;>omega
theorem Ab6(V:List Int)(e:I8 V)(i:Nat):UIn ((rsM V).r i):=by
 show UIn (if i=1 then(KC V 2).map LJ else[]);split
 .exact UIn.sm e ZbH
 .exact UIn.nil
theorem Ab7(V:List Int)(e:I8 V):Wd 2 (rsM V):=by
 refine⟨A4B e ZbH,λi _=>?_,λi K=>⟨?_,?_,λB=>⟨?_,?_⟩⟩⟩
 .show ShP (if i=1 then(KC V 2).map LJ else[])
  split
  .exact A4B e ZbH
  .exact ⟨by decide,λq h=>ZdC,.inl rfl⟩
 .have:=A4L V e i
  omega
 .have:=A4L V e i
  omega
 .show (if i=0 then(1:Int)else if i=1 then AR V 5 else 0)=0
  exact ZjD
 .show (if i=1 then(KC V 2).map LJ else[]).length=0
  rw[Yai ZbD];rfl
theorem A7U(e:I8 vq){K:Cor}{C:Clm}{m c:Nat}(f:K.n=2)(L:K.e.length=m)(w:m<=2)(I:C.l.length=c)(d:c<=3){κ:Int}(j:C.kind=κ)(q:1<=κ/\κ<=13)(Q:∀P∈vM,MP 9 P):DR K C (GO κ vM vq m c)/\CrIn vq (GO κ vM vq m c):=by
 have M:=Abo vq;have H:(0:Int)<=0/\(0:Int)<=64:=by decide
 have zg:(0:Int)<=((gN vq+1:Nat):Int)/\((gN vq+1:Nat):Int)<=64:=by omega
 have V:=A1R Q 1 m;have O:=Vq vM 1 m;have b:=A1R Q 0 (gN vq);have l:=Vq vM 0 (gN vq);have s:∀P∈([]:List (List Tm)),MP 9 P:=λP h=>by cases h
 have t:((((rQ (pQ vM 1 m)).length:Nat):Int)=((K.e.length:Nat):Int))/\My K.n (rQ (pQ vM 1 m)):=⟨by rw[rQ,Yar,O,L],by rw[f];exact Nw V⟩;have o:(rQ (pQ vM 0 (gN vq))).length=gN vq:=by rw[rQ,Yar,l]
 have U:Jl 2 (rQ (pQ vM 0 (gN vq))):=⟨by rw[o];omega,Nw b⟩;have oz:OValid (CS (gN vq)):=UU ZbD;have v:Jx 2 (((rQ (pQ vM 0 (gN vq))).length:Nat):Int) ((K.e.length:Nat):Int) (tQ (Gz vM m (gN vq))):=by rw[o,L];exact UP Q _ _
 have r:Jx 2 ((K.e.length:Nat):Int) (((rQ (pQ vM 0 (gN vq))).length:Nat):Int) (tQ (Gz vM (gN vq) m)):=by rw[o,L];exact UP Q _ _
 have T:Jx 2 ((((rQ (pQ vM 0 (gN vq))).length:Nat):Int)*((((rQ (pQ vM 0 (gN vq))).length:Nat):Int)-1)/2) (((rQ (pQ vM 0 (gN vq))).length:Nat):Int) (tQ (Gz vM (gN vq) (gN vq*(gN vq-1)/2))):=by rw[o,<-AaV M];exact UP Q _ _
 have u:TIn (tQ (Gz vM m (gN vq))):=Wc Q ZbD ZbD;have y:TIn (tQ (Gz vM (gN vq) m)):=Wc Q ZbD ZbD;have i3:TIn (tQ (Gz vM (gN vq) (gN vq*(gN vq-1)/2))):=Wc Q ZbD (Ab0 M);by_cases R:κ=1
 .have Z:DJ κ vM vq m c=⟨0, rQ (pQ vM 1 m), [], [], [], [], [], Zy, [], [], [], []⟩:=by unfold DJ;rw [Yan R]
  unfold GO;rw[Z];refine⟨?_,Sn (z:=0) (Q2:=[]) H V ZbD s ZbH ZbH TIn.nil TIn.nil TIn.nil Kl MG MH⟩;unfold DR;rw[j,Yan R];exact⟨t,rfl,rfl,rfl,rfl,rfl,rfl,MU,rfl,rfl,rfl,rfl⟩
 by_cases S:κ=3
 .have Z:DJ κ vM vq m c=⟨((gN vq+1:Nat):Int), rQ (pQ vM 1 m), [], [], [], [], [], Zy, [], [], [], []⟩:=by unfold DJ;rw [Yai R, Yan S]
  unfold GO;rw[Z];refine⟨?_,Sn (z:=0) (Q2:=[]) zg V ZbD s ZbH ZbH TIn.nil TIn.nil TIn.nil Kl MG MH⟩;unfold DR;rw[j,Yai R,Yai (show¬(κ=2\/κ=4\/κ=5\/κ=6)by omega),Yan S];exact⟨⟨by dsimp only;omega,by dsimp only;omega,t⟩,rfl,rfl,rfl,rfl,rfl,MU,rfl,rfl,rfl,rfl⟩
 by_cases z:κ=9\/κ=10
 .have Z:DJ κ vM vq m c=⟨0, rQ (pQ vM 1 m), [], [], [], [], [], Zy, [], sqL vM vq (gN vq), [], []⟩:=by unfold DJ;rw [Yai R, Yai S, Yan z]
  have Y:=A93 Q vq M;unfold GO;rw[Z];refine⟨?_,Sn (z:=0) (Q2:=[]) H V ZbD s ZbH ZbH TIn.nil TIn.nil TIn.nil Y MG MH⟩;unfold DR;rw[j,Yai R,Yai (show¬(κ=2\/κ=4\/κ=5\/κ=6)by omega),Yai S,Yai (show¬(κ=7\/κ=8)by omega),Yan z,f];refine⟨⟨Yat Y.2 ZbH,λx E=>?_,t⟩,rfl,rfl,rfl,rfl,rfl,rfl,MU,rfl,rfl,rfl⟩;obtain⟨i,P,rfl,N⟩:=Y.1 x E;exact⟨Oc _,N.bd ZbH⟩
 by_cases W:κ=11
 .have Z:DJ κ vM vq m c=⟨0, [], [], [], tQ (Gz vM m (1+c*(c+1)/2)), [], [], Zy, [], [], [], []⟩:=by unfold DJ;rw [Yai R, Yai S, Yai z, Yan W]
  unfold GO;rw[Z];refine⟨?_,Sn (z:=0) (Q1:=[]) (Q2:=[]) H s ZbH s ZbH ZbH (Wc Q ZbD (AaY d)) TIn.nil TIn.nil Kl MG MH⟩;unfold DR;rw[j,Yai R,Yai (show¬(κ=2\/κ=4\/κ=5\/κ=6)by omega),Yai S,Yai (show¬(κ=7\/κ=8)by omega),Yai z,Yan W,f];refine⟨?_,rfl,rfl,rfl,rfl,rfl,rfl,MU,rfl,rfl,rfl,rfl⟩;rw[I,L,<-AaZ d];exact UP Q _ _
 by_cases a:κ=12
 .have Z:DJ κ vM vq m c=⟨0, [], rQ (pQ vM 0 (gN vq)), CS (gN vq), tQ (Gz vM m (gN vq)), [], [], Zy, [], [], [], []⟩:=by unfold DJ;rw [Yai R, Yai S, Yai z, Yai W, Yan a]
  unfold GO;rw[Z];refine⟨?_,Sn (Q1:=[]) H s ZbH b ZbD ZbD u TIn.nil TIn.nil Kl MG MH⟩;unfold DR;rw[j,Yai R,Yai (show¬(κ=2\/κ=4\/κ=5\/κ=6)by omega),Yai S,Yai (show¬(κ=7\/κ=8)by omega),Yai z,Yai W,Yan a,f];exact⟨⟨U,oz,v⟩,rfl,rfl,rfl,rfl,MU,rfl,rfl,rfl,rfl⟩
 by_cases n:κ=13
 .have Z:DJ κ vM vq m c=⟨0, [], [], [], [], [], [], Zy, [], [], ptL vq (gN vq), bxL vq (gN vq)⟩:=by unfold DJ;rw [Yai R, Yai S, Yai z, Yai W, Yai a, Yan n]
  have E:=A9l vq M;have F:=Aa9 vq M;unfold GO;rw[Z];refine⟨?_,Sn (z:=0) (Q1:=[]) (Q2:=[]) H s ZbH s ZbH ZbH TIn.nil TIn.nil TIn.nil Kl E F⟩;unfold DR;rw[j,Yai R,Yai (show¬(κ=2\/κ=4\/κ=5\/κ=6)by omega),Yai S,Yai (show¬(κ=7\/κ=8)by omega),Yai z,Yai W,Yai a,Yan n,f];refine⟨⟨Yat E.2 ZbH,λx h=>?_,Yat F.2 ZbH,λg h=>?_⟩,rfl,rfl,rfl,rfl,rfl,rfl,rfl,MU,rfl,rfl⟩
  .obtain ⟨k,rfl⟩:=E.1 x h
   intro i A;obtain⟨p,G,Y⟩:=Vi e k A;refine⟨by rw[G];exact Oc _,λB=>?_⟩;unfold ptF;rw[Yai ZbD,Yan A];exact Ox _
  .obtain ⟨k,rfl⟩:=F.1 g h
   exact A5T e k
 by_cases X:κ=7\/κ=8
 .have Z:DJ κ vM vq m c=⟨0, [], rQ (pQ vM 0 (gN vq)), CS (gN vq), tQ (Gz vM m (gN vq)), tQ (Gz vM (gN vq) m), tQ (Gz vM (gN vq) (gN vq*(gN vq-1)/2)), rsM vq, atL vq (gN vq), [], [], []⟩:=by unfold DJ;rw [Yai R, Yai S, Yai z, Yai W, Yai a, Yai n, Yan X]
  have J:=Aaf vq M;unfold GO;rw[Z];refine⟨?_,⟨by show(0:Int)<=0/\(0:Int)<=64;decide,⟨[],rfl,s,by decide⟩,⟨_,rfl,b,by omega⟩,⟨_,by omega,rfl⟩,u,y,i3,A4L vq e,λi A=>?_,UIn.sm e ZbH,Ab6 vq e,λi A=>?_,J,Kl,MG,MH⟩⟩
  .unfold DR
   rw[j,Yai R,Yai (show¬(κ=2\/κ=4\/κ=5\/κ=6)by omega),Yai S,Yan X,f];refine⟨⟨by unfold Lz;rw[f];exact⟨U,oz,v,r,T⟩,Yat J.2 ZbH,λx E=>?_,Ab7 vq e⟩,rfl,rfl,rfl,rfl,rfl⟩;obtain⟨k,i,rfl⟩:=J.1 x E;exact A2f e k i
  .show (if i=0 then(1:Int)else if i=1 then AR vq 5 else 0)=0
   exact ZjD
  .show (if i=1 then(KC vq 2).map LJ else[])=[]
   rw[Yai ZbD]
 have Z:DJ κ vM vq m c=⟨0,[],rQ (pQ vM 0 (gN vq)),CS (gN vq),tQ (Gz vM m (gN vq)),tQ (Gz vM (gN vq) m),tQ (Gz vM (gN vq) (gN vq*(gN vq-1)/2)),Zy,[],[],[],[]⟩:=by unfold DJ;rw[Yai R,Yai S,Yai z,Yai W,Yai a,Yai n,Yai X]
 unfold GO;rw[Z];refine⟨?_,Sn (Q1:=[]) H s ZbH b ZbD ZbD u y i3 Kl MG MH⟩;unfold DR;rw[j,Yai R,Yan (show κ=2\/κ=4\/κ=5\/κ=6 by omega)];exact⟨by unfold Lz;rw[f];exact⟨U,oz,v,r,T⟩,rfl,rfl,MU,rfl,rfl,rfl,rfl⟩
end
