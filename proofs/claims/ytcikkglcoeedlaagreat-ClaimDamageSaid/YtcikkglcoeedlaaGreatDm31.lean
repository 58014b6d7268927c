/- Part 31. No condition. -/
import Derived.Test.YtcikkglcoeedlaaGreatDm18
import Derived.Test.YtcikkglcoeedlaaGreatDm20
import Derived.Test.YtcikkglcoeedlaaGreatDm25
import Derived.Test.YtcikkglcoeedlaaGreatDm26
import Derived.Test.YtcikkglcoeedlaaGreatDm28
import Derived.Test.YtcikkglcoeedlaaGreatDm29
import Derived.Test.YtcikkglcoeedlaaGreatDm30
set_option linter.all false
set_option maxRecDepth 100000
set_option maxHeartbeats 2000000
namespace Go.Proofs.YtcikkglcoeedlaaGreat
open _root_.Go.Proofs.Tryz
variable{l:List Nat}{e:Type}{vE:Rd e}{uv:Type}{ul:e->Prop}
section
open Go.RowKit
open Classical
theorem AaE(f:Fct):B8 (IY f):=by
 unfold IY;split
 .exact Py f
 .exact .nil
theorem Tw(T:TypeId)(l:List Nat)(I:Byt l)(Q:l.length<=40000):Abs prog 11 [Eq T l] (SS IY l):=
 Nz IY AaE T l I Q λf m h=>by
  have v:B4 l:=⟨I.lt,Q⟩;obtain⟨n,-,o⟩:=A6p l f m v h;exact Tv f n ZbC
def RdSt{U:Type}(p:Rd U):Prop:=∀l x i,p l=some (x,i)->∀r,p (l++r)=some (x,i++r)
theorem DW(x:e):RdSt (Cp x):=λl y i h r=>by
 cases h;rfl
theorem RdSt.bind{p:Rd e}{f:e->Rd uv}(F:RdSt p)(q:∀x,RdSt (f x)):RdSt (p.bind f):=λl y i h r=>by
 unfold Rd.bind at h ⊢
 cases E:p l with
 |none=>exact Zja
 |some z=>
  obtain⟨x,m⟩:=z;rw[E]at h;rw[F l x m E r];exact q x m y i h r
theorem RdSt.guard{c:List Nat->Bool}(G:∀l r,c l=true->c (l++r)=true):RdSt (Il c):=λl y i h r=>by
 unfold Il at h ⊢;split at h
 .rename_i q
  cases h;rw[Yao (G l r q)]
 .cases h
theorem UO:∀k s n,RdSt (Ld k s n)
 |0,_,_=>λl y i h r=>by unfold Ld at h;cases h
 |k+1,s,n=>λl y i h r=>by
  cases l with
  |nil=>unfold Ld at h;cases h
  |cons c b=>
   rw[Ycn];unfold Ld at h ⊢
   dsimp only at h ⊢
   split at h
   .cases h
   .rename_i q
    rw[Yaj q];split at h
    .rename_i A
     cases h;rw[Yao A]
    .rename_i A
     rw[Yaj A];exact UO k _ _ b y i h r
theorem Mm{U:Type}{p:Rd U}(F:RdSt p):∀n,RdSt (Co p n)
 |0=>DW _
 |n+1=>F.bind λ_=>(Mm F n).bind λ_=>DW _
section
variable {G:Lg} (hG:RdSt G.nat)
include hG
theorem EG(F:RdSt vE):RdSt (Fb G vE):=RdSt.bind hG λn=>RdSt.bind (RdSt.guard λl r h=>by
 simp only[YaZ,Yac]at h ⊢;omega) λ_=>Mm F n
omit hG in
theorem A08:RdSt Jh:=λl y i h r=>by
 unfold Jh at h;split at h
 .cases h
  rfl
 .cases h
theorem US:RdSt (Px G):=RdSt.bind hG λn=>RdSt.bind (RdSt.guard λl r h=>by
 simp only[YaZ,Yac]at h ⊢;omega) λ_=>(Mm A08 _).bind λ_=>DW _
theorem IE:RdSt (GQ G):=(US hG).bind λ_=>(US hG).bind λ_=>DW _
omit hG in
theorem Ka[Inhabited e](F:RdSt vE):RdSt (Lc vE):=(Mm F 8).bind λ_=>DW _
theorem A3I:RdSt (Pz G):=RdSt.bind hG λn l y i h r=>by
 split at h
 .rename_i q
  cases h;rw[Yao q]
 .cases h
theorem GN:RdSt (Ii G):=RdSt.bind hG λ_=>DW _
theorem Nl:RdSt (Hs G):=EG hG ((IE hG).bind λ_=>(Ka (A3I hG)).bind λ_=>DW _)
theorem GK:RdSt (EE G):=EG hG (Nl hG)
theorem Ll:RdSt (Lm G):=EG hG (GK hG)
theorem UC:RdSt (QN G):=Ka (GN hG)
theorem Ql:RdSt (Lx G):=EG hG (UC hG)
theorem Uq:RdSt (QK G):=EG hG (IE hG)
theorem YO:RdSt (TK G):=(IE hG).bind λ_=>(IE hG).bind λ_=>DW _
theorem Qx:RdSt (LT G):=EG hG (Ka (YO hG))
theorem A5h:RdSt (sqP G):=(IE hG).bind λ_=>(Nl hG).bind λ_=>DW _
theorem A3H:RdSt (Lf G):=
 RdSt.bind ((GN hG).bind λ_=>(GK hG).bind λ_=>(GK hG).bind λ_=>DW _) λ_=>
 RdSt.bind ((GN hG).bind λ_=>(Nl hG).bind λ_=>(GN hG).bind λ_=>(GN hG).bind λ_=>(GN hG).bind λ_=>(Ql hG).bind λ_=>(GK hG).bind λ_=>(EG hG (GN hG)).bind λ_=>(Qx hG).bind λ_=>DW _) λ_=>
 RdSt.bind ((GN hG).bind λ_=>(GK hG).bind λ_=>(GK hG).bind λ_=>(Ql hG).bind λ_=>(Ll hG).bind λ_=>(Ll hG).bind λ_=>(Ll hG).bind λ_=>RdSt.bind ((UC hG).bind λ_=>(Uq hG).bind λ_=>(Ka (Uq hG)).bind λ_=>DW _) λ_=>(EG hG (YO hG)).bind λ_=>(EG hG (A5h hG)).bind λ_=>(EG hG (Ka (IE hG))).bind λ_=>(Qx hG).bind λ_=>DW _) λ_=>DW _
end
theorem A98:RdSt G0.nat:=UO _ _ _
theorem A3U{F:Fct->List Nat}{f:Fct}(E:Lf G0 l=some (f,[])){i:Nat}(J:i<l.length):KK F (l.take i)=none:=by
 unfold KK
 cases h:Lf G0 (l.take i)with
 |none=>rfl
 |some z=>
  obtain⟨g,q⟩:=z;have:=A3H A98 _ _ _ h (l.drop i);rw[YbV,E]at this;have:=Yag this;simp only[YeF]at this;have A:=congrArg List.length this.2;rw[Yac,Ybx,Ybg]at A;omega
theorem A3T{g:Fct}(B:B4 l)(h:KK IY l=some g):FZ g/\EH g=l:=by
 unfold KK at h
 cases F:Lf G0 l with
 |none=>rw[F]at h;cases h
 |some z=>
  obtain⟨d,m⟩:=z;rw[F]at h
  dsimp only at h
  split at h
  .rename_i b
   cases h;refine⟨(A6p l g m B F).1,?_⟩;unfold IY at b;split at b
   .exact b
   .subst b
    have:Lf G0 []=none:=rfl;rw[this]at F;cases F
  .cases h
noncomputable def Sv (M:Nat) (L:List (Nat×List (Nat->Int))) (V:List Int):Fct:=
 ⟨Hc L V,LA M L V,He (Cz M L V).kind (Ba L) V (Hc L V).e.length (Cz M L V).l.length⟩
theorem A63(M:Nat)(L:List (Nat×List (Nat->Int)))(V:List Int):DG (Sv M L V)=DG (YG M L V):=by
 unfold DG Sv YG
 dsimp only
 rw[A65,A64]
theorem A4u(T t:Nat)(M:Nat)(e:M<256)(L:List (Nat×List (Nat->Int)))(s:TM L)(V:List Int)(f:I8 V)(I:V.length<=9223372036854775807):Abs prog 15 [AP (Hr T t M L V)] (AP (DG (Sv M L V))):=by
 rw[A63];exact A7g T t M e L s V f I
structure FOk(f:Fct):Prop where
 p:QH f.k f.c f.e
 z:FZ f
 b:FB f
 n:(EH f).length<=39000
theorem FOk.enc{f:Fct}(h:FOk f):IY f=EH f:=Yao h.p
theorem FOk.read{f:Fct}(h:FOk f):Lf G0 (EH f)=some (f,[]):=by
 have:=A6o (G:=G0) A9r f h.b [];rwa [YbD]at this
theorem FOk.pos{f:Fct}(h:FOk f):0<(EH f).length:=by
 unfold EH FY;simp only[Yac];have:0<(Bs f.k.n).length:=HW _;omega
theorem A8j(M:Nat)(L:List (Nat×List (Nat->Int)))(V:List Int)(f:I8 V):FOk (Sv M L V):=by
 obtain⟨k,Y,y,U,d⟩:=A62 L V;obtain⟨K,F⟩:=A3D M L V f;have I:=A2B M L V;obtain⟨W,o⟩:=A8J (K:=Hc L V) (C:=LA M L V) (m:=(Hc L V).e.length) (c:=(Cz M L V).l.length) f rfl rfl d rfl I (κ:=(Cz M L V).kind) rfl K.kd (NN L);refine⟨⟨⟨k,F _ rfl⟩,W⟩,⟨Y,K.z f,o.z f⟩,⟨y,K.cb f,o.cb f⟩,?_⟩;have a:=K.len f;have b:=o.len f;unfold EH;simp only[Yac];show(FY (Hc L V)).length+(Ix (LA M L V)).length+(Kk (He _ _ _ _ _)).length<=_;omega
def Sy(c:Int):List Tm:=[⟨(c:Rat),Ji 0⟩]
def Qn(c:Int):Cor:=⟨1,rQ [Sy c],[]⟩
theorem QU(i:Nat):0<=Ji 0 i/\Ji 0 i<=65535:=by
 simp only[Ji,RW];split<;>omega
theorem YM(c:Int)(A:0<c)(q:c<=100):Abs prog 40 [eI c] (AP (Ef (Qn c))):=by
 have G:((c:Int):Rat)≠0:=λe=>by
  have:c=0:=by exact_mod_cast e
  omega
 have E:=A6W 0 ZbH;have B:=Fa c ZbC ZbC
 have f := Nw ((c : Int) : Rat) (fun _ => 0) [⟨1, Ji 0⟩] 1 1 G (JG (x := c) ZbC ZbC) (fun i J => by simp) (fun t L => by
  rw[Yax.1 L];exact(JG (x:=1) ZbH ZbH:RSz ((1:Int):Rat) 1)) (λt L=>by
  rw[Yax.1 L];intro i J;exact QU i) (λt L=>by
  rw[Yax.1 L];intro i J;show 0<=0+Ji 0 i/\0+Ji 0 i<=65535;rw[Int.zero_add];exact QU i) ZbH ZbH
 have e:Ur ((c:Int):Rat) (λ_=>0) [⟨1,Ji 0⟩]=Sy c:=by
  simp[Ur,Sy];funext i;simp[CY]
 rw[e]at f;refine Ab func40 λy=>?_;rw[ntmps40];refine Go ?_;exact AA (Am (ResV.cell rfl rfl (Aa rfl) rfl rfl rfl) (Ch (DsLe.cons (D.le.refl _) (DsLe.cons (Ae (by rw[show Iq (Qn c).e=Bb [Sy c]from(Fe _).symm];rfl)) (DsLe.cons AM DsLe.nil)))))
theorem A1Z(c:Int)(G:c≠0)(m:Nat->Int):Canon [⟨(c:Rat),m⟩]:=OO (t:=⟨(c:Rat),m⟩) (λe=>G (by
 have:((c:Int):Rat)=0:=e
 exact_mod_cast this))
theorem Aaq(c:Int)(G:c≠0):Canon (Sy c):=A1Z c G _
theorem Aca(c:Int):PIn (Sy c) 0 65535:=λt L=>by
 rw[Sy,Yax]at L;subst L;intro i _;exact QU i
theorem Acb(c:Int)(G:c≠0)(n d:Int)(g:1<=n)(A:1<=d):Vu n d ((Sy c).map EF):=by
 refine⟨XJ (Aaq c G) (Aca c),?_,?_⟩
 .rw [Lj]
  have q:OY (Sy c)=1:=by
   show(0 ||| suppTo (Ji 0) 8)=1;exact ZjV
  rw[q];exact Nat.one_lt_two_pow ZbC
 .rw [Lj]
  have q:Im (Sy c)=1:=by rfl
  omega
theorem A8n:Db (Ea (Sy 1)) (Sy 1)=0:=ZjV
theorem A8m:¬Db (Ea (Sy 2)) (Sy 2)=0:=ZjV
theorem A5k(n C:Int):Nc n C []:=⟨by decide,λi J=>absurd J ZbR⟩
theorem Pu:ON (Qn 1):=by
 refine⟨by decide,by decide,⟨by decide,λi J=>?_⟩,A5k _ _⟩;have P:i<1:=J;obtain rfl:i=0:=by omega
 refine⟨⟨Acb 1 ZbH _ _ ZbH ZbH,?_,?_⟩,λh=>absurd h ZbC⟩
 .show (0:Int)<=Im (MO ((Sy 1).map EF))
  rw[Lj];exact ZjV
 .show Db (Ea (MO ((Sy 1).map EF))) (MO ((Sy 1).map EF))=0
  rw[Lj];exact A8n
theorem Aar:¬ON (Qn 2):=λh=>by
 have q:=(h.2.2.1.2 0 ZbH).1.2.2;apply A8m;have A:Db (Ea (MO ((Sy 2).map EF))) (MO ((Sy 2).map EF))=0:=q;rw[Lj]at A;exact A
def exF:Fct:=⟨Qn 1,⟨1,[],0,0,0,[],[],[],[]⟩,⟨0,[[]],[],[],[],[],[],⟨λ_=>0,[],λ_=>[]⟩,[],[],[],[]⟩⟩
theorem A6G (n d : Int) (q : 0 ≤ d) : Vu n d [] := ⟨fun k B => absurd B ZbR, by
 show(0:Nat)<2^n.toNat;exact YbC ZbR,by
 have h:Im (MO [])<=0:=ZjV
 omega⟩
theorem Acc:FY (Qn 1)=[2,1,1,2,0,0,0,1,2,0,0,0,1,1,0,0,0,0,0,0,0,0]:=ZjV
theorem SO:(EH exF).length=60:=ZjV
theorem LZ.nil:LZ ul []:=⟨λ_ h=>ZdB,Yay _⟩
theorem LZ.one{x:e}(h:ul x):LZ ul [x]:=⟨λy M=>by rw[Yax.1 M];exact h,by simp⟩
theorem PZ.nil:PZ []:=⟨λ_ h=>ZdB,Yay _⟩
theorem iw0:IW 0:=by unfold IW;omega
theorem A9u(c:Int)(A:0<c)(q:c<=100):PZ ((Sy c).map EF):=by
 refine⟨λt L=>?_,by simp[Sy]⟩;have e:t=EF ⟨(c:Rat),Ji 0⟩:=by simpa[Sy]using L
 have a:=(JG (x:=c) ZbC ZbC:RSz ((c:Int):Rat) 1);subst e;exact⟨⟨BG _,Yau a.1 ZbH⟩,⟨BG _,Yau a.2 ZbH⟩⟩
theorem A2C(c:Int)(A:0<c)(q:c<=100):CZ (Qn c):=⟨by show IW 1;unfold IW;omega,.one (A9u c A q),.nil⟩
theorem A2M:FZ exF:=⟨A2C 1 ZbH ZbH,⟨by show IW 1;unfold IW;omega,.nil,iw0,iw0,iw0,.nil,.nil,.nil,.nil⟩,⟨iw0,.one .nil,.nil,.nil,.nil,.nil,.nil,⟨λ_ _=>iw0,.nil,λ_ _=>.nil⟩,.nil,.nil,.nil,.nil⟩⟩
theorem LB.nil:LB ul []:=⟨λ_ h=>ZdB,by simp⟩
theorem LB.one{x:e}(h:ul x):LB ul [x]:=⟨λy M=>by rw[Yax.1 M];exact h,by simp⟩
theorem ib0:IB 0:=by unfold IB;omega
theorem Acj : FB exF := ⟨⟨by unfold IB; decide, .one (.one (by
 have n:=A9u 1 ZbH ZbH;have L:=n.t (EF ⟨((1:Int):Rat),Ji 0⟩) (by simp[Sy]);exact⟨L.n.sm,L.d.sm,λi _=>QU i,λi J=>by show Ji 0 i=0;simp only[Ji,RW];rw[Yaj ZbC]⟩)),.nil⟩,⟨by unfold IB;decide,.nil,ib0,ib0,ib0,.nil,.nil,.nil,.nil⟩,⟨ib0,.one .nil,.nil,.nil,.nil,.nil,.nil,⟨⟨λ_ _=>ib0,λ_ _=>rfl⟩,.nil,⟨λ_ _=>.nil,λ_ _=>rfl⟩⟩,.nil,.nil,.nil,.nil⟩⟩
theorem A6r:Lf G0 (EH exF)=some (exF,[]):=by
 have h:=A6o (G:=G0) A9r exF Acj [];rwa [YbD]at h
theorem Abs.arg{P:Program}{f:FuncId}{ds ds':List D}{r:D}(h:Abs P f ds' r)(I:DsLe ds ds'):Abs P f ds r:=
 ⟨h.1,λs J C W q=>h.2 s J C (W.trans I.get.1) λk B=>(I.get.2 k (by rw[I.get.1];exact B)) s _ (q k (by rw[I.get.1];exact B))⟩
abbrev nl:D:=eS
abbrev zC(kind n d r:Int):List D:=[eI kind,nl,eI n,eI d,eI r,nl,nl,nl,nl]
theorem AbH(kind n d r:Int):DsLe (zC kind n d r) (clC kind [] n d r [] [] [] []):=by
 repeat (first | exact DsLe.nil | refine DsLe.cons (D.le.refl _) ?_ | refine DsLe.cons AM ?_)
theorem A4S(kind n d r:Int):D.le (AP (zC kind n d r)) (AP (clC kind [] n d r [] [] [] [])):=Ch (AbH kind n d r)
section
variable {P:Program} {hp:List Ow} {arg:Operand->AV} {dd:Option Tmp} {ty:TypeId} {ps:String} {af:Array Edge} {gd:Option (Nat×Bool)}
theorem PQ{T U:TypeId}{x y:Operand}{b c:List Nat}(C:arg x=.d (stD b))(M:arg y=.d (stD c))(E:∀z∈b,z<256)(G:∀z∈c,z<256)(h:b=c):Quiet P hp ⟨dd,.binOp .neq T x y U,ty,ps,af,gd⟩ arg (.d (eB false)):=by
 have:=To (P:=P) (hp:=hp) (dd:=dd) (ty:=ty) (ps:=ps) (af:=af) (gd:=gd) (T:=T) (U:=U) C M E G;rwa [Yal h]at this
end
theorem exB:Abs prog 25 [AP [eI 8,nl,nl],AP (zC 13 2 0 0)] (FA [eI 2,eI (-1)]):=
 (A20 8 nl [] ⟨13,([]:List Tm).map EF,2,0,0,[],[],[],[]⟩ ZbH).arg (DsLe.cons (Ch (DsLe.cons (D.le.refl _) (DsLe.cons (D.le.refl _) (DsLe.cons AM DsLe.nil)))) (DsLe.cons (by rw[A15];exact A4S _ _ _ _) DsLe.nil))
theorem Ad7:Abs prog 11 [nl] (FA [AP (DG MT),eI 3]):=by
 have c:Lf G0 []=none:=rfl;have h:=Nz (λ_=>[]) (λ_=>.nil) 5 [] (by refine⟨?_,?_⟩<;>simp) ZbH (λf m h=>by rw[c]at h;cases h);have e:KK (λ_=>[]) []=none:=by unfold KK;rw[c]
 have e:SS (λ_=>[]) []=FA [AP (DG MT),eI 3]:=by simp[SS,PA,PD,e]
 rw[e]at h;exact h.arg (DsLe.cons AM DsLe.nil)
theorem Ad3:Abs prog 79 [AP (Ef (Qn 1)++EM exF.c)] (eB true):=by
 have W:=OX (Qn 1) (A2C 1 ZbH ZbH);rw[Yal Pu]at W;have B:NV (Qn 1):=⟨Pu.1,Pu.2.1⟩;have C:=WR (Qn 1) B [] 12 PZ.nil;rw[Yal (A6G _ _ ZbH)]at C;have Z:=(Vf ⟨0,[],0,0,0,[],[],[],[]⟩).arg (ds:=[AP [eI 0,nl,eI 0,eI 0,eI 0,Er [],Iq [],NR [],Gl []]]) (DsLe.cons (Ch (DsLe.cons (D.le.refl _) (DsLe.cons AM (DsLe.cons (D.le.refl _) (DsLe.cons (D.le.refl _) (DsLe.cons (D.le.refl _) (DsLe.cons (D.le.refl _) (DsLe.cons (D.le.refl _) (DsLe.cons (D.le.refl _) (DsLe.cons (D.le.refl _) DsLe.nil)))))))))) DsLe.nil);rw[show Gn ⟨0,[],0,0,0,[],[],[],[]⟩=true from rfl]at Z;obtain⟨K,g⟩:∃K,K=Qn 1:=⟨_,rfl⟩;rw[<-g]at W C ⊢;rw[show EM exF.c=[eI 1,Lh [],eI 0,eI 0,eI 0,Er [],Iq [],NR [],Gl []]from rfl];clear g B;refine Ab func79 λy=>?_;rw[ntmps79];exact Zfz
theorem A6s:FN ⟨exF.e.n,[],exF.e.g,exF.e.o,exF.e.c,exF.e.q,exF.e.s,exF.e.r,exF.e.a,exF.e.sq,exF.e.x,exF.e.b⟩=true:=by
 have q:NoU exF.e.r.q:=rfl;have A:NoR exF.e.r:=λ_ _=>rfl;have K:OS exF.e.r.l no8=true:=by decide
 simp only[FN,Yal q,Yal A,K];rfl
theorem Ad5:Abs prog 86 [AP (DG exF)] (eB true):=by
 have W:=Ad3;have B:NV (Qn 1):=⟨Pu.1,Pu.2.1⟩;have A:=A2O (Qn 1) exF.c exF.e B A2M.e
 rw[show Kl (Qn 1) exF.e=true from by
  have F:Nf (Qn 1).n exF.e.cof:=λp F=>by
   rw[Yax.1 F];exact A6G _ _ ZbH
  simp only[Kl,Yal F];rfl]at A
 have I:=(Tb ⟨exF.e.n,[],exF.e.g,exF.e.o,exF.e.c,exF.e.q,exF.e.s,exF.e.r,exF.e.a,exF.e.sq,exF.e.x,exF.e.b⟩).arg (ds:=[AP ([eI exF.e.n,nl,Iq exF.e.g,Er exF.e.o,TI exF.e.c,TI exF.e.q,TI exF.e.s]++(RY exF.e.r++[WD exF.e.a,VD exF.e.sq,A0B exF.e.x,Gl exF.e.b]))]) (DsLe.cons (Ch ZdG) DsLe.nil);rw[A6s]at I;rw[show(DG exF)=DG ⟨Qn 1,exF.c,exF.e⟩from rfl];obtain⟨K,g⟩:∃K,K=Qn 1:=⟨_,rfl⟩;obtain⟨e,b⟩:∃e,e=exF.e:=⟨_,rfl⟩;rw[<-g]at W A ⊢;rw[<-b]at A I ⊢;rw[show exF.c=⟨1,[],0,0,0,[],[],[],[]⟩from rfl]at W A ⊢;clear g b B;refine Ab func86 λy=>?_;rw[ntmps86];refine Go ?_;refine Gg (τ:=⟨[(1,.ptr 0 0),(3,.ptr 1 0),(4,.d (eN K.e.length))],[.var 150 ((DG ⟨K,⟨1,[],0,0,0,[],[],[],[]⟩,e⟩).map .d),.var 46 ((DI e).map .d)]⟩) ZbG [.av (.ptr 0 12),.av (.d (AP (DI e))),.av (.ptr 0 0),.av (.ptr 0 0),.av (.ptr 0 0),.av (.ptr 0 1),.av (.d (Iq K.e)),.av (.d (eN K.e.length)),.newS 46 9 (DI e),.st 8,.av (.d (eN K.e.length))] ZbG ?_ ?_ ?_
 .refine Zgk ?_;refine Zgg ?_;refine Zgt ?_;refine ZgA ?_;exact Zge
 .exact Ac ZcT Zcu
 exact Zfz
theorem Ad4:Abs prog 36 [AP (Ef exF.k),AP (EM exF.c),AP (DI exF.e)] (eB true):=by
 have W:=Ad5;obtain⟨F,hF⟩:∃F,F=exF:=⟨_,rfl⟩;rw[<-hF]at W ⊢;clear hF;refine Ab func36 λy=>?_;rw[ntmps36];exact Zfz
theorem exE:Abs prog 14 [AP (DG exF)] (Eq 5 (EH exF)):=by
 have W:=Ad4;have K:=A2J exF A2M.fw [] (by rw[SO];decide);obtain⟨f,p⟩:∃f,f=exF:=⟨_,rfl⟩;rw[<-p]at W K ⊢;clear p;refine Ab func14 λy=>?_;rw[ntmps14];apply Y1;refine Bx ?_;refine Wa<|Y0<|Ah<|Y1 ?_;refine Wq AB ?_;refine Wq AF ?_;refine Wq AB ?_;refine Wq AF ?_;refine Wq AB ?_;refine Wq AF ?_;refine Wq (AJ (W)) ?_;refine Wq GD ?_;refine Y0<|Cf<|Ys<|Y1 ?_;refine Al ?_;refine Y0<|Y1 ?_;refine Wq AF ?_
 refine Zgm ?_;rintro _ _ ⟨rfl,rfl⟩;refine Kr ?_;exact Zfz
theorem Ad6:Abs prog 11 [Eq 5 (EH exF)] (FA [AP (DG exF),eI 0]):=by
 have h := Nz (fun _ => EH exF) (fun _ => Py _) 5 (EH exF) (by refine ⟨Py _, ?_⟩; rw [SO]; decide) (by rw [SO]; decide) (fun f m h => by
  rw[A6r]at h;cases h;exact exE)
 have e:KK (λ_=>EH exF) (EH exF)=some exF:=by unfold KK;rw[A6r];exact Yao rfl
 have e:SS (λ_=>EH exF) (EH exF)=FA [AP (DG exF),eI 0]:=by simp[SS,PA,PD,e]
 rwa [e]at h
theorem exK:Abs prog 20 [AP (Ef (Qn 1))] (stD [2,1,1,2,0,0,0,1,2,0,0,0,1,1,0,0,0,0,0,0,0,0]):=by
 have h:=A96 (Qn 1) (A2C 1 ZbH ZbH) (by rw[Acc];decide);rwa [show A8p (Qn 1)=FY (Qn 1)from Yao Pu,Acc]at h
theorem exV:Abs prog 32 [AP (Ef (Qn 2))] (eB false):=by
 have h:=Vk (Qn 2) (A2C 2 ZbH ZbH);rwa [Yad Aar]at h
theorem exA:Abs prog 21 [AP [eI 4,nl,nl]] (stD [8,0,0]):=by
 have h := A9b 4 [] [] (by unfold IW; omega) (fun _ h => by cases h) (fun _ h => by cases h) (by
  have:A3Y 4 [] []=[8,0,0]:=ZjV
  rw[this];decide)
 rw[show A3Y 4 [] []=[8,0,0]by decide +kernel]at h;exact h.arg (DsLe.cons (Ch (DsLe.cons (D.le.refl _) (DsLe.cons AM (DsLe.cons AM DsLe.nil)))) DsLe.nil)
theorem exS:Abs prog 13 [AP (DG exF),AP (DG exF)] (eB true):=by
 have h:=Vr exF exF A2M.fw A2M.fw (by rw[SO];decide) (by rw[SO];decide);rwa [Yal rfl]at h
theorem exN:Abs prog 27 [AP (Ef (Qn 1)),AP [eI 5,nl,nl],AP (zC 6 4 3 1)] (eB true):=by
 refine Ab func27 λy=>?_;rw[ntmps27];exact Zfz
theorem AaD(kind G n B d E r C:Int):Abs prog 29 [AP (zC kind n d r),AP (zC G B E C)] (eB ((XP (decide (Db [] []=0)) kind G n B d E r C [] []||rgP kind (TL 1073741824 kind n d) (TL 1073741824 G B E) (rlR 1073741824 kind n r 0) (rlR 1073741824 G B C 0)||(kind==2&&((TL 1073741824 G B E).1==0&&(TL 1073741824 G B E).2==0)))||(XP (decide (Db [] []=0)) G kind B n E d C r [] []||rgP G (TL 1073741824 G B E) (TL 1073741824 kind n d) (rlR 1073741824 G B C 0) (rlR 1073741824 kind n r 0)||(G==2&&((TL 1073741824 kind n d).1==0&&(TL 1073741824 kind n d).2==0))))):=by
 have q:=Vb kind G [] [] n B d E r C [] [] [] [] [] [] [] [] (λ_ h=>by cases h) (λ_ h=>by cases h) ZbH ZbH ZbH ZbH ZbH ZbH _ _ _ _ rfl rfl rfl rfl;have A:=Vb G kind [] [] B n E d C r [] [] [] [] [] [] [] [] (λ_ h=>by cases h) (λ_ h=>by cases h) ZbH ZbH ZbH ZbH ZbH ZbH _ _ _ _ rfl rfl rfl rfl;exact(A4y q A).arg (DsLe.cons (A4S _ _ _ _) (DsLe.cons (A4S _ _ _ _) DsLe.nil))
theorem Ada:Abs prog 29 [AP (zC 12 2 0 0),AP (zC 13 3 0 0)] (eB true):=AaD 12 13 2 3 0 0 0 0
theorem Ad9:Abs prog 29 [AP (zC 12 2 0 0),AP (zC 13 2 0 0)] (eB false):=AaD 12 13 2 2 0 0 0 0
theorem Ad8:Abs prog 29 [AP (zC 5 1 1 0),AP (zC 6 4 3 1)] (eB true):=AaD 5 6 1 4 1 3 0 1
theorem WH:Abs prog 10 [] (eB true):=by
 have t:=YM 1 ZbH ZbH;have B:=YM 2 ZbH ZbH;refine Ab func10 λy=>?_;rw[ntmps10];have U:=exB;have b:=Ad7;refine Go ?_;refine Wq (Fm (l:=[2,1,1,2,0,0,0,1,2,0,0,0,1,1,0,0,0,0,0,0,0,0]) rfl (Aa rfl) (Aa rfl) (Aa rfl)) ?_;refine Wa<|Y0<|Y1 ?_;refine Wq (AJ (t)) ?_;(refine De rfl rfl ?_;(refine AI (Aa rfl) rfl rfl rfl ?_;(repeat ((first | refine⟨_,Ar (ao rfl),?_⟩ | refine⟨_,Po rfl,?_⟩);refine⟨_,rfl,?_⟩));refine⟨_,rfl,?_⟩));refine TD (Aa rfl) (Aa rfl) rfl rfl rfl rfl rfl ?_
 refine Bi (σ':=⟨[(0,.d (eB false)),(1,.ptr 0 0),(2,.ptr 1 0),(3,.d (eI 2)),(4,.d (eI (-1))),(6,.d (eI 3)),(7,.d (stD [2,1,1,2,0,0,0,1,2,0,0,0,1,1,0,0,0,0,0,0,0,0])),(25,.d (AP (Ef (Qn 1)))),(26,.d (AP (zC 1 0 0 0))),(27,.d (BS []))],[.var 34 ((zC 6 4 3 1).map .d),.var 34 ((zC 12 2 0 0).map .d)]⟩) ?wk ?_
 case wk=>exact Ac (by exact Yd<|Yp<|Yp<|Yd<|Yd<|Yd<|Yd<|Yd<|Yd<|FrLe.cons rfl (Gi rfl (D.le.refl _))<|FrLe.nil) Zcu
 (refine De rfl rfl ?_;(refine Dc (Aa rfl) (Aa rfl) rfl rfl rfl rfl rfl ?_;(repeat ((first | refine⟨_,Ar (ao rfl),?_⟩ | refine⟨_,Po rfl,?_⟩);refine⟨_,rfl,?_⟩));refine⟨_,rfl,?_⟩));(refine De rfl rfl ?_;(refine AI (Aa rfl) rfl rfl rfl ?_;(repeat ((first | refine⟨_,Ar (ao rfl),?_⟩ | refine⟨_,Po rfl,?_⟩);refine⟨_,rfl,?_⟩));refine⟨_,rfl,?_⟩));(refine De rfl rfl ?_;(refine AI (Aa rfl) rfl rfl rfl ?_;(repeat ((first | refine⟨_,Ar (ao rfl),?_⟩ | refine⟨_,Po rfl,?_⟩);refine⟨_,rfl,?_⟩));refine⟨_,rfl,?_⟩));refine Al ?_;refine Sf ?_;refine Y0<|Y1 ?_;refine Wq AF ?_
 refine Bi (σ':=⟨[(0,.d (eB false)),(1,.ptr 0 0),(2,.ptr 1 0),(3,.d (eI 2)),(4,.d (eI (-1))),(6,.d (eI 3)),(7,.d (stD [2,1,1,2,0,0,0,1,2,0,0,0,1,1,0,0,0,0,0,0,0,0])),(8,.ptr 2 0),(32,.d (AP (DG exF)))],[.var 34 ((zC 6 4 3 1).map .d),.var 34 ((zC 12 2 0 0).map .d),.var 48 ((DG exF).map .d)]⟩) ?wk2 ?_
 case wk2=>exact Ac (by exact FrLe.cons rfl (AVle.d rfl) (FrLe.cons rfl (AVle.ptr rfl) (FrLe.cons rfl (AVle.ptr rfl) (FrLe.cons rfl (AVle.d rfl) (FrLe.cons rfl (AVle.d rfl) (FrLe.cons rfl (AVle.d rfl) (FrLe.cons rfl (AVle.d rfl) (FrLe.cons rfl (AVle.ptr rfl) (FrLe.cons rfl (AVle.le (Ch (by repeat (first | exact DsLe.nil | refine DsLe.cons AM ?_ | refine DsLe.cons (D.le.refl _) ?_)))) FrLe.nil))))))))) (by exact HpLe.cons (OwLe.varD rfl) (HpLe.cons (OwLe.varD rfl) (HpLe.cons (OwLe.cells (by repeat (first | exact CellsLe.nil | refine CellsLe.cons (AVle.le AM) ?_ | refine CellsLe.cons (AVle.d rfl) ?_))) HpLe.nil)))
 have I:=exE;have a:=Ad6;have q:=exS;obtain⟨F,hF⟩:∃F,F=exF:=⟨_,rfl⟩;rw[<-hF]at I a q ⊢;obtain⟨E,Z⟩:∃E,E=EH F:=⟨_,rfl⟩;rw[<-Z]at I a;clear hF Z;refine Go ?_;refine Dy 37 ?_;have s:=exK;refine DA ?_;refine⟨_,HStep.q rfl (PQ (b:=[2,1,1,2,0,0,0,1,2,0,0,0,1,1,0,0,0,0,0,0,0,0]) (c:=[2,1,1,2,0,0,0,1,2,0,0,0,1,1,0,0,0,0,0,0,0,0]) rfl rfl ZbH ZbH rfl),?_⟩;have V:=exA;refine DA ?_;refine⟨_,AZ rfl rfl (Fm (l:=[8,0,0]) rfl (Aa rfl) (Aa rfl) (Aa rfl)),?_⟩;refine⟨_,rfl,?_⟩;refine⟨_,AZ rfl rfl (PQ (b:=[8,0,0]) (c:=[8,0,0]) rfl rfl ZbH ZbH rfl),?_⟩;have M:=exV;refine ZfU ?_;refine Dy 20 ?_;have A:=Ada;have P:=Ad9;have R:=Ad8;have T:=exN;exact Zhh
end
