/- Part 24. No condition. -/
import Derived.Test.YtcikkglcoeedlaaGreatDm18
import Derived.Test.YtcikkglcoeedlaaGreatDm20
import Derived.Test.YtcikkglcoeedlaaGreatDm22
import Derived.Test.YtcikkglcoeedlaaGreatDm23
set_option linter.all false
set_option maxRecDepth 100000
set_option maxHeartbeats 8000000
namespace Go.Proofs.YtcikkglcoeedlaaGreat
open _root_.Go.Proofs.Tryz
variable{vG:Array Edge}{vt:Array TypeId}{r vv:D}{vd:FuncId}{i:IntKind}{v vn:List D}{vP:List Operand}{H vA:List Ow}{uY:List RQ}{n b T m c k f:Nat}{vi:Nat->Int}{x y:Operand}{vC:Operand->AV}{vM:Option (Nat×Bool)}{vz:Option Tmp}{P:Program}{vF:String}{d:TypeDesc}{t U:TypeId}{z u:Value}
section
open Go.RowKit
theorem A6x(xe:Rdr 185 (λx:List RTm=>Lh x) (Hs G0))(H:Rdr 184 (λx:List (List RTm)=>Iq x) (EE G0))(R:Rdr 186 (λx:List (Nat->Int)=>Er x) (Lx G0))(P:Rdr 188 (λx:List (Nat->RQ×RQ)=>Gl x) (LT G0)):Rdr 97 (λc:Clm=>AP (EM c)) (MU G0):=Rdr.intro λT l I=>by
 have N:=GM T l I;refine Bu func97 rfl (Ag func97 ZbG ZbG) rfl λy z=>?_;rw[ntmps97];refine Go ?_;refine Bd [0] [] [] (N) (BX rfl) (λV=>(by repeat (first | exact AN (by unfold MU;exact Rd.none V) | apply AH | apply PanQ.block | apply PanQ.loop):PanQ _ _) _) rfl rfl ZbB Zbz ZbH Zbx ZbD trivial rfl ?_;rintro _ _ ⟨kind,C,q,G,rfl,rfl⟩;refine Kr ?_;have L:=xe T C G;refine Go ?_;refine Bd [0] [] [] (L) (BX rfl) (λV=>(by repeat (first | exact AN (by unfold MU;rw[Rd.some q];exact Rd.none V) | apply AH | apply PanQ.block | apply PanQ.loop):PanQ _ _) _) rfl rfl ZbB Zbz ZbH Zbx ZbD trivial rfl ?_;rintro _ _ ⟨p,a,A,F,rfl,rfl⟩;refine Kr ?_;have M:=GM T a F;refine Go ?_;refine Bd [0] [] [] (M) (BX rfl) (λV=>(by repeat (first | exact AN (by unfold MU;rw[Rd.some q,Rd.some A];exact Rd.none V) | apply AH | apply PanQ.block | apply PanQ.loop):PanQ _ _) _) rfl rfl ZbB Zbz ZbH Zbx ZbD trivial rfl ?_;rintro _ _ ⟨n,U,K,J,rfl,rfl⟩;refine Kr ?_;have O:=GM T U J;refine Go ?_;refine Bd [0] [] [] (O) (BX rfl) (λV=>(by repeat (first | exact AN (by unfold MU;rw[Rd.some q,Rd.some A,Rd.some K];exact Rd.none V) | apply AH | apply PanQ.block | apply PanQ.loop):PanQ _ _) _) rfl rfl ZbB Zbz ZbH Zbx ZbD trivial rfl ?_;rintro _ _ ⟨d,h,Q,j,rfl,rfl⟩;refine Kr ?_;have m:=GM T h j;refine Go ?_;refine Bd [0] [] [] (m) (BX rfl) (λV=>(by repeat (first | exact AN (by unfold MU;rw[Rd.some q,Rd.some A,Rd.some K,Rd.some Q];exact Rd.none V) | apply AH | apply PanQ.block | apply PanQ.loop):PanQ _ _) _) rfl rfl ZbB Zbz ZbH Zbx ZbD trivial rfl ?_;rintro _ _ ⟨r,X,k,e,rfl,rfl⟩;refine Kr ?_;have xa:=R T X e;refine Go ?_;refine Bd [0] [] [] (xa) (BX rfl) (λV=>(by repeat (first | exact AN (by unfold MU;rw[Rd.some q,Rd.some A,Rd.some K,Rd.some Q,Rd.some k];exact Rd.none V) | apply AH | apply PanQ.block | apply PanQ.loop):PanQ _ _) _) rfl rfl ZbB Zbz ZbH Zbx ZbD trivial rfl ?_;rintro _ _ ⟨o,Y,B,u,rfl,rfl⟩;refine Kr ?_;have xb:=H T Y u;refine Go ?_;refine Bd [0] [] [] (xb) (BX rfl) (λV=>(by repeat (first | exact AN (by unfold MU;rw[Rd.some q,Rd.some A,Rd.some K,Rd.some Q,Rd.some k,Rd.some B];exact Rd.none V) | apply AH | apply PanQ.block | apply PanQ.loop):PanQ _ _) _) rfl rfl ZbB Zbz ZbH Zbx ZbD trivial rfl ?_;rintro _ _ ⟨i,Z,g,v,rfl,rfl⟩;refine Kr ?_;have xc:=(Ac1 GM) T Z v;refine ZgE ?_;refine Bd [0] [] [] (xc) (BX rfl) (λV=>(by repeat (first | exact AN (by unfold MU;rw[Rd.some q,Rd.some A,Rd.some K,Rd.some Q,Rd.some k,Rd.some B,Rd.some g];exact Rd.none V) | apply AH | apply PanQ.block | apply PanQ.loop):PanQ _ _) _) rfl rfl ZbB Zbz ZbH Zbx ZbD trivial rfl ?_;rintro _ _ ⟨s,W,E,w,rfl,rfl⟩;refine Kr ?_;have xd:=P T W w;refine Go ?_;refine Bd [0] [] [] (xd) (BX rfl) (λV=>(by repeat (first | exact AN (by unfold MU;rw[Rd.some q,Rd.some A,Rd.some K,Rd.some Q,Rd.some k,Rd.some B,Rd.some g,Rd.some E];exact Rd.none V) | apply AH | apply PanQ.block | apply PanQ.loop):PanQ _ _) _) rfl rfl ZbB Zbz ZbH Zbx ZbD trivial rfl ?_;rintro _ _ ⟨b,f,S,t,rfl,rfl⟩;refine Kr ?_;refine ZfA ?_;exact⟨⟨kind,p,n,d,r,o,i,s,b⟩,f,by unfold MU;rw[Rd.some q,Rd.some A,Rd.some K,Rd.some Q,Rd.some k,Rd.some B,Rd.some g,Rd.some E,Rd.some S];rfl,t,rfl,rfl⟩
theorem A42{r:Nat->List RQ}{v:List RQ}(h:n<8):SetAt (RY ⟨vi,uY,r⟩) (0+9+n*1) [Hn v] (RY ⟨vi,uY,upF r n v⟩):=by
 rcases lt8 h with rfl | rfl | rfl | rfl | rfl | rfl | rfl | rfl<;>exact⟨YbE rfl,rfl⟩
theorem A4R:AllLe [eI (vi 0),eI (vi 1),eI (vi 2),eI (vi 3),eI (vi 4),eI (vi 5),eI (vi 6),eI (vi 7),Hn uY,eS,eS,eS,eS,eS,eS,eS,eS] (RY ⟨vi,uY,λi=>([]:List (List RQ)).getD i default⟩):=
 ⟨D.le.refl _,D.le.refl _,D.le.refl _,D.le.refl _,D.le.refl _,D.le.refl _,D.le.refl _,D.le.refl _,D.le.refl _,AM,AM,AM,AM,AM,AM,AM,AM,trivial⟩
theorem VR(Z:Rdr 269 (λL:List RQ=>Hn L) (QK G0)):Rdr 190 (λr:Rsl=>AP (RY r)) (VO G0):=Rdr.intro λT l I=>by
 have G:=Sn T l I;refine Bu func190 rfl (Ag func190 ZbG ZbG) rfl λq z=>?_;rw[ntmps190];refine ZfB ?_;rintro _ _ ⟨o,A,t,Q,rfl,rfl⟩;refine Kr ?_;have J:=Z T A Q;refine Go ?_;refine Bd [0] [] [] (J) (BX rfl) (λV=>(by repeat (first | exact AN (by unfold VO;rw[Rd.some t];exact Rd.none V) | apply AH | apply PanQ.block | apply PanQ.loop):PanQ _ _) _) rfl rfl ZbB Zbz ZbH Zbx ZbD trivial rfl ?_;rintro _ _ ⟨u,M,c,h,rfl,rfl⟩;refine ZfR ?_;refine AC (λw e=>∃k j a,k<=8/\w=8-k/\j.length=k/\Byt a/\(Co (QK G0) 8 M=(Co (QK G0) (8-k) a).map λy=>(j++y.1,y.2))/\e=⟨[(0,.ptr 0 0),(2,.ptr 2 0),(3,.ptr 3 0),(11,.d (eN k))],[.var 92 [.d (Eq T a)],.pin [(z,.own 0)],.var 41 ([eI 0,eI 0,eI 0,eI 0,eI 0,eI 0,eI 0,eI 0,eS,eS,eS,eS,eS,eS,eS,eS,eS].map .d),.var 41 ((RY ⟨o,u,λi=>j.getD i default⟩).map .d)]⟩) ?le ⟨0,[],M,Yay _,rfl,rfl,h,by cases Co (QK G0) 8 M<;>rfl,rfl⟩ ?round
 case le=>exact Ac Zdf (by exact HpLe.cons (Ad rfl)<|HpLe.cons (Ak rfl)<|HpLe.cons (Ad rfl)<|HpLe.cons (HG A4R)<|HpLe.nil)
 case round=>
  rintro w _ ⟨k,j,a,B,rfl,W,E,Y,rfl⟩
  have C:∀{r},Co (QK G0) 8 M=r->VO G0 l=(match r with | none=>none | some (N,U)=>some (⟨o,u,λi=>N.getD i default⟩,U)):=λ{r} Y=>by
   unfold VO;rw[Rd.some t,Rd.some c];unfold Lc Rd.bind;rw[Y];cases r<;>rfl
  by_cases O:k<8
  .have G:=Z T a E
   refine Go ?_;refine Bd [0] [] [] (G) (BX rfl) (λV=>(by repeat (first | exact AN (C (DZ O Y V)) | apply AH | apply PanQ.block | apply PanQ.loop):PanQ _ _) _) rfl rfl ZbB Zbz ZbH Zbx ZbD trivial rfl ?_;rintro _ _ ⟨x,U,K,F,rfl,rfl⟩;refine ZfR ?_;refine Mj (ao rfl) (ao rfl) rfl (Aa rfl) (by first | exact One.sl) (A42 O) rfl ?_;refine Go ?_;refine Ai (8-(k+1)) ZbC ⟨k+1,j++[x],U,by omega,rfl,by simp[W],F,DY O Y K,rfl⟩ ?_;exact Ac Zdf Zdg
  .obtain rfl:k=8:=by omega
   refine ZfA ?_;exact⟨_,a,by rw[C Y];simp[Co,Cp],E,rfl,rfl⟩
theorem A8I(R:Rdr 184 (λx:List (List RTm)=>Iq x) (EE G0))(xd:Rdr 186 (λx:List (Nat->Int)=>Er x) (Lx G0))(xe:Rdr 189 (λx:List (List (List RTm))=>TI x) (Lm G0))(xq:Rdr 190 (λx:Rsl=>AP (RY x)) (VO G0))(xc:Rdr 188 (λx:List (Nat->RQ×RQ)=>Gl x) (LT G0))(xo:Rdr 192 (λx:RQ×RQ=>AP (Ju x)) (TK G0))(xr:Rdr 194 (λx:RQ×List RTm=>AP (JF x)) (sqP G0))(xp:Rdr 196 (λx:Nat->RQ=>AP (MR x)) (ptP G0)):Rdr 98 (λe:Crt=>AP (DI e)) (KL G0):=Rdr.intro λT l I=>by
 have W:=GM T l I;refine Bu func98 rfl (Ag func98 ZbG ZbG) rfl λy z=>?_;rw[ntmps98];refine Go ?_;refine Bd [0] [] [] (W) (BX rfl) (λV=>(by repeat (first | exact AN (by unfold KL;exact Rd.none V) | apply AH | apply PanQ.block | apply PanQ.loop):PanQ _ _) _) rfl rfl ZbB Zbz ZbH Zbx ZbD trivial rfl ?_;rintro _ _ ⟨nv,d,q,F,rfl,rfl⟩;refine Kr ?_;have L:=R T d F;refine Go ?_;refine Bd [0] [] [] (L) (BX rfl) (λV=>(by repeat (first | exact AN (by unfold KL;rw[Rd.some q];exact Rd.none V) | apply AH | apply PanQ.block | apply PanQ.loop):PanQ _ _) _) rfl rfl ZbB Zbz ZbH Zbx ZbD trivial rfl ?_;rintro _ _ ⟨xn,a,A,E,rfl,rfl⟩;refine Kr ?_;have M:=R T a E;refine Go ?_;refine Bd [0] [] [] (M) (BX rfl) (λV=>(by repeat (first | exact AN (by unfold KL;rw[Rd.some q,Rd.some A];exact Rd.none V) | apply AH | apply PanQ.block | apply PanQ.loop):PanQ _ _) _) rfl rfl ZbB Zbz ZbH Zbx ZbD trivial rfl ?_;rintro _ _ ⟨O,U,K,J,rfl,rfl⟩;refine Kr ?_;have b:=xd T U J;refine Go ?_;refine Bd [0] [] [] (b) (BX rfl) (λV=>(by repeat (first | exact AN (by unfold KL;rw[Rd.some q,Rd.some A,Rd.some K];exact Rd.none V) | apply AH | apply PanQ.block | apply PanQ.loop):PanQ _ _) _) rfl rfl ZbB Zbz ZbH Zbx ZbD trivial rfl ?_;rintro _ _ ⟨Y,h,Q,s,rfl,rfl⟩;refine Kr ?_;have t:=xe T h s;refine Go ?_;refine Bd [0] [] [] (t) (BX rfl) (λV=>(by repeat (first | exact AN (by unfold KL;rw[Rd.some q,Rd.some A,Rd.some K,Rd.some Q];exact Rd.none V) | apply AH | apply PanQ.block | apply PanQ.loop):PanQ _ _) _) rfl rfl ZbB Zbz ZbH Zbx ZbD trivial rfl ?_;rintro _ _ ⟨Z,c,k,o,rfl,rfl⟩;refine Kr ?_;have xf:=xe T c o;refine Go ?_;refine Bd [0] [] [] (xf) (BX rfl) (λV=>(by repeat (first | exact AN (by unfold KL;rw[Rd.some q,Rd.some A,Rd.some K,Rd.some Q,Rd.some k];exact Rd.none V) | apply AH | apply PanQ.block | apply PanQ.loop):PanQ _ _) _) rfl rfl ZbB Zbz ZbH Zbx ZbD trivial rfl ?_;rintro _ _ ⟨qv,i,B,u,rfl,rfl⟩;refine Kr ?_;have xg:=xe T i u;refine Go ?_;refine Bd [0] [] [] (xg) (BX rfl) (λV=>(by repeat (first | exact AN (by unfold KL;rw[Rd.some q,Rd.some A,Rd.some K,Rd.some Q,Rd.some k,Rd.some B];exact Rd.none V) | apply AH | apply PanQ.block | apply PanQ.loop):PanQ _ _) _) rfl rfl ZbB Zbz ZbH Zbx ZbD trivial rfl ?_;rintro _ _ ⟨f,j,g,w,rfl,rfl⟩;refine Kr ?_;have xh:=xq T j w;refine Go ?_;refine Bd [0] [] [] (xh) (BX rfl) (λV=>(by repeat (first | exact AN (by unfold KL;rw[Rd.some q,Rd.some A,Rd.some K,Rd.some Q,Rd.some k,Rd.some B,Rd.some g];exact Rd.none V) | apply AH | apply PanQ.block | apply PanQ.loop):PanQ _ _) _) rfl rfl ZbB Zbz ZbH Zbx ZbD trivial rfl ?_;rintro _ _ ⟨m,n,C,H,rfl,rfl⟩;refine Kr ?_;have xi:=(Ad1 xo) T n H;refine ZgE ?_;refine Bd [0] [] [] (xi) (BX rfl) (λV=>(by repeat (first | exact AN (by unfold KL;rw[Rd.some q,Rd.some A,Rd.some K,Rd.some Q,Rd.some k,Rd.some B,Rd.some g,Rd.some C];exact Rd.none V) | apply AH | apply PanQ.block | apply PanQ.loop):PanQ _ _) _) rfl rfl ZbB Zbz ZbH Zbx ZbD trivial rfl ?_;rintro _ _ ⟨G,r,S,P,rfl,rfl⟩;refine Kr ?_;have xu:=(AcZ xr) T r P;refine ZgE ?_;refine Bd [0] [] [] (xu) (BX rfl) (λV=>(by repeat (first | exact AN (by unfold KL;rw[Rd.some q,Rd.some A,Rd.some K,Rd.some Q,Rd.some k,Rd.some B,Rd.some g,Rd.some C,Rd.some S];exact Rd.none V) | apply AH | apply PanQ.block | apply PanQ.loop):PanQ _ _) _) rfl rfl ZbB Zbz ZbH Zbx ZbD trivial rfl ?_;rintro _ _ ⟨xw,xa,X,xj,rfl,rfl⟩;refine Kr ?_;have xs:=(Ad0 xp) T xa xj;refine ZgE ?_;refine Bd [0] [] [] (xs) (BX rfl) (λV=>(by repeat (first | exact AN (by unfold KL;rw[Rd.some q,Rd.some A,Rd.some K,Rd.some Q,Rd.some k,Rd.some B,Rd.some g,Rd.some C,Rd.some S,Rd.some X];exact Rd.none V) | apply AH | apply PanQ.block | apply PanQ.loop):PanQ _ _) _) rfl rfl ZbB Zbz ZbH Zbx ZbD trivial rfl ?_;rintro _ _ ⟨xv,xb,v,xk,rfl,rfl⟩;refine Kr ?_;have xt:=xc T xb xk;refine Go ?_;refine Bd [0] [] [] (xt) (BX rfl) (λV=>(by repeat (first | exact AN (by unfold KL;rw[Rd.some q,Rd.some A,Rd.some K,Rd.some Q,Rd.some k,Rd.some B,Rd.some g,Rd.some C,Rd.some S,Rd.some X,Rd.some v];exact Rd.none V) | apply AH | apply PanQ.block | apply PanQ.loop):PanQ _ _) _) rfl rfl ZbB Zbz ZbH Zbx ZbD trivial rfl ?_;rintro _ _ ⟨N,xm,p,xl,rfl,rfl⟩;refine Kr ?_;refine ZfA ?_;exact⟨⟨nv,xn,O,Y,Z,qv,f,m,G,xw,xv,N⟩,xm,by unfold KL;rw[Rd.some q,Rd.some A,Rd.some K,Rd.some Q,Rd.some k,Rd.some B,Rd.some g,Rd.some C,Rd.some S,Rd.some X,Rd.some v,Rd.some p];rfl,xl,rfl,rfl⟩
theorem A8s(g:Rdr 96 (λx:Cor=>AP (Ef x)) (WN G0))(Q:Rdr 97 (λx:Clm=>AP (EM x)) (MU G0))(Z:Rdr 98 (λx:Crt=>AP (DI x)) (KL G0)):Rdr 42 (λf:Fct=>AP (DG f)) (Lf G0):=Rdr.intro λT l I=>by
 have L:=g T l I;refine Bu func42 rfl (Ag func42 ZbG ZbG) rfl λy z=>?_;rw[ntmps42];refine Go ?_;refine Bd [0] [] [] (L) (BX rfl) (λV=>(by repeat (first | exact AN (Rd.none V) | apply AH | apply PanQ.block | apply PanQ.loop):PanQ _ _) _) rfl rfl ZbB Zbz ZbH Zbx ZbD trivial rfl ?_;rintro _ _ ⟨k,d,q,G,rfl,rfl⟩;refine Kr ?_;have C:=Q T d G;refine Go ?_;refine Bd [0] [] [] (C) (BX rfl) (λV=>(by repeat (first | exact AN (by unfold Lf;rw[Rd.some q];exact Rd.none V) | apply AH | apply PanQ.block | apply PanQ.loop):PanQ _ _) _) rfl rfl ZbB Zbz ZbH Zbx ZbD trivial rfl ?_;rintro _ _ ⟨c,a,A,E,rfl,rfl⟩;refine Kr ?_;have M:=Z T a E;refine Go ?_;refine Bd [0] [] [] (M) (BX rfl) (λV=>(by repeat (first | exact AN (by unfold Lf;rw[Rd.some q,Rd.some A];exact Rd.none V) | apply AH | apply PanQ.block | apply PanQ.loop):PanQ _ _) _) rfl rfl ZbB Zbz ZbH Zbx ZbD trivial rfl ?_;rintro _ _ ⟨e,U,K,B,rfl,rfl⟩;refine Kr ?_;refine ZfA ?_;exact⟨⟨k,c,e⟩,U,by unfold Lf;rw[Rd.some q,Rd.some A,Rd.some K];rfl,B,rfl,rfl⟩
theorem AaA:Rdr 42 (λf:Fct=>AP (DG f)) (Lf G0):=by
 have rat:=Yc A0U;have t:=YQ rat;have s:=A82 (A7O rat);have L:=A5F s;have u:=A6E (Ab2 t);have G:=A5L Sn;exact A8s (A8z L (YL Yj)) (A6x s L G u) (A8I L G (A3e L) (VR (TO rat)) u t (A3h rat s) (A5I rat))
def RelL(s:GS)(S:List D)(J:List Value):Prop:=J.length=S.length/\∀k,k<S.length->(Dd S k).rel s (J.getD k undef)
theorem RelL.app{s:GS}{x y:List Value}(h:RelL s v x)(k:RelL s vn y):RelL s (v++vn) (x++y):=by
 refine⟨by rw[Yac,Yac,h.1,k.1],λi J=>?_⟩;rw[Yac]at J;unfold Dd;rw[Yaa,Yaa];rcases YaI i v.length with q | q
 .rw [Yaw q, Yaw (by rw [h.1]; exact q), <-Yaa, <-Yaa]
  exact h.2 i q
 .rw [Yak q, Yak (by rw [h.1]; exact q), <-Yaa, <-Yaa, h.1]
  exact k.2 _ ZbC
def fvD(f:FuncId)(ds C:List D):D:=⟨λs v=>∃t i:List Value,v=.func (.func f) t.toArray i.toArray/\RelL s ds t/\RelL s C i,
 λ⟨t,i,q,A,K⟩ G=>⟨t,i,q,⟨A.1,λk B=>(Dd ds k).st (A.2 k B) G⟩,⟨K.1,λk B=>(Dd C k).st (K.2 k B) G⟩⟩⟩
def FnAbs(P:Program)(F:D)(J:List D)(r:D):Prop:=∃c S f,D.le F (fvD c S f)/\Abs P c (S++J++f) r
theorem FnAbs.ex(h:Abs P vd v r):FnAbs P (ex (.func (.func vd) #[] #[])) v r:=⟨vd,[],[],λs q A=>⟨[],[],A,⟨rfl,λk B=>absurd B ZbR⟩,⟨rfl,λk B=>absurd B ZbR⟩⟩,by simpa using h⟩
theorem Mg{ds f J:List D}(h:Abs P vd (ds++J++f) r):FnAbs P (fvD vd ds f) J r:=⟨vd,ds,f,D.le.refl _,h⟩
section
variable {P:Program} {hp:List Ow} {arg:Operand->AV} {dd:Option Tmp} {ty:TypeId} {ps:String} {af:Array Edge} {gd:Option (Nat×Bool)}
theorem Dm{F:D}(p:arg x=.d F)(G:FnAbs P F v vv)(t:ArgsLe hp arg vP v):Quiet P hp ⟨dd,.call { callee:=.value x,args:=vP.toArray,argTypes:=vt },ty,ps,af,gd⟩ arg (.d vv):=by
 obtain⟨d,S,f,O,c⟩:=G;refine⟨λbase s V i L l Z h=>?_⟩;have A:=h x Zdc;rw[p]at A;obtain⟨X,n,W,B,K⟩:=O s _ A;obtain⟨Q,k⟩:=ArgsLe.rel (ev:=i) Z t λq C=>h q (by simp[Op.operands,Call.operands,C]);have J:RelL s v (vP.map i):=⟨by simpa using Q,k⟩;have g:=(B.app J).app K;have M:=c.2 s (X++vP.map i++n) L g.1 g.2;unfold RegG.OpStep
 have m:(execOp i ⟨dd,.call { callee:=.value x,args:=vP.toArray,argTypes:=vt },ty,ps,af,gd⟩).run P s.w=.ok (.enter d (X++vP.map i++n).toArray) s.w:=by
  simp[execOp,resolve,W,Deferred.ofValue,invoke,c.1]
 rw[m];exact M.mono λe N ⟨E,b,j,a,I,Y⟩=>⟨E,b,j,a,I,Y⟩
theorem Mb{t f:List Operand}{ds z:List D}(q:ArgsLe hp arg t ds)(A:ArgsLe hp arg f z):Quiet P hp ⟨dd,.makeFunc (.func vd) t.toArray f.toArray,ty,ps,af,gd⟩ arg (.d (fvD vd ds z)):=by
 refine⟨λbase s V i E v Z h=>?_⟩;obtain⟨K,Q⟩:=ArgsLe.rel (ev:=i) Z q λx C=>h x (by simp[Op.operands,C]);obtain⟨k,B⟩:=ArgsLe.rel (ev:=i) Z A λx C=>h x (by simp[Op.operands,C]);refine BW (v:=.func (.func vd) (t.map i).toArray (f.map i).toArray) (by simp[execOp,Instr.makeFunc]) ⟨GS.Le.refl s,_,_,rfl,⟨by simpa using K,Q⟩,⟨by simpa using k,B⟩⟩
theorem A1B{e n b H T len:Nat}(C:arg x=.d (Fk T v))(L:Tab P t (.array len e) n b z)(E:Tab P e d 1 H u)(I:Qf len v=some vn)(F:len<=1000):Quiet P hp ⟨dd,.slice t x none none none,ty,ps,af,gd⟩ arg (.d (slD T 1 (vn.map λy=>[y]))):=by
 obtain⟨N,o⟩:=NI I;have J:vn.length=len:=by rw[N,YaO];omega
 subst J;refine⟨λbase s V i G O Z h=>?_⟩;have q:=h x ZcR;rw[C]at q;obtain⟨g,p,W,K⟩:=q;replace K:=K.take vn.length;rw[<-N]at K;obtain⟨f,M,A,K⟩:=K;have W:i x=.pointer (some ⟨g,p,none⟩):=W;refine BW (v:=.slice (some ⟨g,p,none⟩) vn.length vn.length) ?_ ⟨GS.Le.refl s,?_⟩
 .simp [execOp,Instr.sliceAt,W,run_underlying L.und,Instr.sureAddr,Instr.sliceBounds,E.run_size,Addr.add_lit]
 .refine ⟨some ⟨g, p, none⟩, vn.length, by rw [Yap], by rw [Yap]; exact Yai _, by omega, λ_=>⟨g, p, rfl, λk B=>?_⟩⟩
  rw[Yap]at B;have o:(vn.map λy=>[y]).getD k []=[Dd vn k]:=by simp[Dd,B]
  rw[o];refine⟨rfl,f,M,A,λj X=>?_⟩;have X:j<1:=X;obtain rfl:j=0:=by omega
  have:=K k B;rw[Ybz,Ybf];exact this
end
section
variable {fr:List (Nat×AV)} {hp hp':List Ow}
theorem A9j(id q:Nat)(M:hp[id]? = some (.var t (v.map .d)))(C:Ce fr q=some (.ptr id 0))(F:Gk hp id .dead=some hp'):AS.le ⟨fr,hp⟩ ⟨(q,.d (Fk t v))::fr,hp'⟩:=by
 rw[Ev F];intro y n a w ⟨s,V,c,I⟩;obtain⟨g,f,X,P,U,N,L,m,T⟩:=I.hp id _ M;let Y:GS:=⟨λb k=>s.S b k\/b=g,s.tag,s.w⟩;have i:GS.Chg s Y:=⟨Yai _,λ_ _ B=>.inl B,λb f t S E=>⟨f,S,E,λ_ _=>rfl⟩⟩;have O:g<s.w.heap.size:=Bv U;have z:Y.Ok:=⟨λb k B=>B.elim (I.ok.lt b k) λh=>h▸O,λb k R=>.inl (I.ok.safe b k R)⟩;have r:OwB s (V id) (.var t (v.map .d)) g:=by show DR (V id)=some g;rw[X];rfl
 have H:GS.LeX y.mine y.g Y:=⟨I.le.os,I.le.tape,I.le.output,I.le.block,I.le.chg.trans i,λb k E J B=>B.elim (I.le.old b k E J) λB=>((I.own id _ b M (B▸r)).elim J λh=>absurd E ZbC).elim,I.le.tag,λ_=>z⟩
 have j:=I.upd (s':=Y) (o':=.dead) (ρ':=V) (f:=λx=>x) H z i M
  (λb _ p=>⟨rfl,λk=>⟨λB=>B.elim (λh=>h) λh=>absurd (h▸r) p,λB=>.inl B⟩⟩) (λ_ _=>rfl) trivial (λb E=>E.elim) λK A h=>h.chg i
 rw[Lz,IF]at j;have j:StI y n ⟨fr,hp.set id .dead⟩ a Y V:=j;refine⟨Y,V,c,⟨j.le,j.ok,λu K Q=>?_,j.sz,j.df,j.hp,j.sep,j.own⟩⟩;rw[CX]at Q;split at Q
 .rename_i e
  cases Q;subst e;obtain⟨_,b,W,o⟩:=I.fr q _ C;rw[X]at W;cases W;refine⟨g,0,o,f,(0,0),U,λk B=>?_⟩;have G:=T k (.d (Dd v k)) (by simp[Dd,B]);obtain⟨u,Z,d,l⟩:=G;rw[YaH];exact⟨.inr rfl,u,Z,d,(Dd v k).st l i⟩
 .exact j.fr u K Q
end
theorem CM{s0:An}{Q:Exit->AS->Prop}{c:Code}{h:List (Nat×AV)}{ds:List D}(id q:Nat)(A:H[id]? = some (.var t (ds.map .d)))(C:Ce h q=some (.ptr id 0))(a:Gk H id .dead=some vA)(k:AWp P s0 n c Q ⟨(q,.d (Fk t ds))::h,vA⟩):AWp P s0 n c Q ⟨h,H⟩:=CT (A9j id q A C a) k
theorem VQ(r:Rsl)(Y:RsW r):Wr 207 (AP (RY r)) (JH r):=Wr.intro λb E=>by
 have Z:JH r=Gz r.l++GW r.q++DF GW r.r 8:=rfl;rw[Z]at E ⊢;simp only[Yac]at E;have c:=Sm r.l Y.l b ZbC;have q:=MW r.q Y.q (b++Gz r.l) ZdL;refine BD func207 rfl (Ag func207 ZbG ZbG) rfl λy z j=>?_;rw[ntmps207];refine ZfP ?_;rintro _ _ ⟨rfl,rfl⟩;refine Zhc ?_;rintro _ _ ⟨rfl,rfl⟩;refine ZfR ?_;refine AC (λw e=>∃k,k<=8/\w=8-k/\e=⟨[(0,.ptr 0 0),(15,.d (AP (up8 r.r))),(16,.d (eN k))],[.var 103 [.own 1],.row 5 1 (CA (b++Gz r.l++GW r.q++DF (GW) r.r k)),.pin [(z,.own 0)]]⟩) ?le ⟨0,by omega,rfl,rfl⟩ ?round
 case le=>exact Ac Zcf Zcs
 case round=>
  rintro w _ ⟨k,B,rfl,rfl⟩;by_cases O:k<8
  .have B:=Gu (GW) r.r O
   have G:=MW (r.r k) (Y.r k O) (b++Gz r.l++GW r.q++DF (GW) r.r k) ZbK;refine Go ?_;refine Wq (Gw (ao rfl) (ao rfl) (Aa rfl) (Aa rfl) rfl O (A1Y O)) ?_;refine Zhd ?_;exact ZiF
  .obtain rfl:k=8:=by omega
   refine Go ?_
   first | refine Bt RetsA.none rfl ?_ rfl | refine AW RetsA.none rfl ?_ rfl
   exact⟨rfl,by rw[Yaf,Yaf,Yaf];rfl⟩
theorem A2N(k:Cor)(h:CoW k):Wr 53 (AP (Ef k)) (FY k):=Wr.intro λb E=>by
 simp only[FY,Yac]at E;have c:=FS k.n h.n (b) ZbK;have q:=JU k.e h.e (b++Bs k.n) ZbK;have A:=JU k.f h.f (b++Bs k.n++Bj k.e) ZbK;refine BD func53 rfl (Ag func53 ZbG ZbG) rfl λy z j=>?_;rw[ntmps53];refine ZfP ?_;rintro _ _ ⟨rfl,rfl⟩;refine Kr ?_;refine Bi (σ':=⟨[(0,.ptr 0 0),(3,.ptr 3 0)],[.var 103 [.own 1],.row 5 1 (CA (b++Bs k.n)),.pin [(z,.own 0)],.var 26 ((Ef k).map .d)]⟩) ?_ ?_
 .exact ZkD
 refine Zgp ?_;rintro _ _ ⟨rfl,rfl⟩;refine Kr ?_;refine Bi (σ':=⟨[(0,.ptr 0 0),(3,.ptr 3 0)],[.var 103 [.own 1],.row 5 1 (CA (b++Bs k.n++Bj k.e)),.pin [(z,.own 0)],.var 26 ((Ef k).map .d)]⟩) ?_ ?_
 .exact ZkD
 refine Zgq ?_;rintro _ _ ⟨rfl,rfl⟩;refine Kr ?_;refine Bi (σ':=⟨[(0,.ptr 0 0),(3,.ptr 3 0)],[.var 103 [.own 1],.row 5 1 (CA (b++Bs k.n++Bj k.e++Bj k.f)),.pin [(z,.own 0)],.var 26 ((Ef k).map .d)]⟩) ?_ ?_
 .exact ZkD
 apply AWl.nil
 first | refine Bt RetsA.none rfl ?_ rfl | refine AW RetsA.none rfl ?_ rfl
 exact⟨rfl,by simp only[FY,Yaf];rfl⟩
theorem A6v(c:Clm)(h:ClW c):Wr 111 (AP (EM c)) (Ix c):=Wr.intro λb E=>by
 simp only[Ix,Yac]at E;have B:=FS c.kind h.kind (b) ZbK;have q:=Rg c.p h.p (b++Bs c.kind) ZbK;have A:=FS c.n h.n (b++Bs c.kind++CH c.p) ZbK;have K:=FS c.d h.d (b++Bs c.kind++CH c.p++Bs c.n) ZbK;have Q:=FS c.r h.r (b++Bs c.kind++CH c.p++Bs c.n++Bs c.d) ZbK;have k:=Sj c.o h.o (b++Bs c.kind++CH c.p++Bs c.n++Bs c.d++Bs c.r) ZbK;have C:=JU c.l h.l (b++Bs c.kind++CH c.p++Bs c.n++Bs c.d++Bs c.r++CC c.o) ZbK;have g:=AbK c.s h.s (b++Bs c.kind++CH c.p++Bs c.n++Bs c.d++Bs c.r++CC c.o++Bj c.l) ZbK;have x:=Zl c.b h.b (b++Bs c.kind++CH c.p++Bs c.n++Bs c.d++Bs c.r++CC c.o++Bj c.l++Bp Bs c.s) ZbK;refine BD func111 rfl (Ag func111 ZbG ZbG) rfl λy z j=>?_;rw[ntmps111];refine Go ?_;refine AU [0,1] [] [] (B) Zby rfl rfl ZbB Zbz ZbH Zbx ZbD trivial rfl ?_;rintro _ _ ⟨rfl,rfl⟩;refine Kr ?_;refine Bi (σ':=⟨[(0,.ptr 0 0),(3,.ptr 3 0)],[.var 103 [.own 1],.row 5 1 (CA (b++Bs c.kind)),.pin [(z,.own 0)],.var 34 ((EM c).map .d)]⟩) ?_ ?_
 .exact ZkD
 refine Zgp ?_;rintro _ _ ⟨rfl,rfl⟩;refine Kr ?_;refine Bi (σ':=⟨[(0,.ptr 0 0),(3,.ptr 3 0)],[.var 103 [.own 1],.row 5 1 (CA (b++Bs c.kind++CH c.p)),.pin [(z,.own 0)],.var 34 ((EM c).map .d)]⟩) ?_ ?_
 .exact ZkD
 refine Zgq ?_;rintro _ _ ⟨rfl,rfl⟩;refine Kr ?_;refine Bi (σ':=⟨[(0,.ptr 0 0),(3,.ptr 3 0)],[.var 103 [.own 1],.row 5 1 (CA (b++Bs c.kind++CH c.p++Bs c.n)),.pin [(z,.own 0)],.var 34 ((EM c).map .d)]⟩) ?_ ?_
 .exact ZkD
 refine Go ?_;refine AU [0,1] [] [] (K) Zby rfl rfl ZbB Zbz ZbH Zbx ZbD trivial rfl ?_;rintro _ _ ⟨rfl,rfl⟩;refine Kr ?_;refine Bi (σ':=⟨[(0,.ptr 0 0),(3,.ptr 3 0)],[.var 103 [.own 1],.row 5 1 (CA (b++Bs c.kind++CH c.p++Bs c.n++Bs c.d)),.pin [(z,.own 0)],.var 34 ((EM c).map .d)]⟩) ?_ ?_
 .exact ZkD
 refine Go ?_;refine AU [0,1] [] [] (Q) Zby rfl rfl ZbB Zbz ZbH Zbx ZbD trivial rfl ?_;rintro _ _ ⟨rfl,rfl⟩;refine Kr ?_;refine Bi (σ':=⟨[(0,.ptr 0 0),(3,.ptr 3 0)],[.var 103 [.own 1],.row 5 1 (CA (b++Bs c.kind++CH c.p++Bs c.n++Bs c.d++Bs c.r)),.pin [(z,.own 0)],.var 34 ((EM c).map .d)]⟩) ?_ ?_
 .exact ZkD
 refine Go ?_;refine AU [0,1] [] [] (k) Zby rfl rfl ZbB Zbz ZbH Zbx ZbD trivial rfl ?_;rintro _ _ ⟨rfl,rfl⟩;refine Kr ?_;refine Bi (σ':=⟨[(0,.ptr 0 0),(3,.ptr 3 0)],[.var 103 [.own 1],.row 5 1 (CA (b++Bs c.kind++CH c.p++Bs c.n++Bs c.d++Bs c.r++CC c.o)),.pin [(z,.own 0)],.var 34 ((EM c).map .d)]⟩) ?_ ?_
 .exact ZkD
 refine Go ?_;refine AU [0,1] [] [] (C) Zby rfl rfl ZbB Zbz ZbH Zbx ZbD trivial rfl ?_;rintro _ _ ⟨rfl,rfl⟩;refine Kr ?_;refine Bi (σ':=⟨[(0,.ptr 0 0),(3,.ptr 3 0)],[.var 103 [.own 1],.row 5 1 (CA (b++Bs c.kind++CH c.p++Bs c.n++Bs c.d++Bs c.r++CC c.o++Bj c.l)),.pin [(z,.own 0)],.var 34 ((EM c).map .d)]⟩) ?_ ?_
 .exact ZkD
 refine ZgE ?_;refine AU [0,1] [] [] (g) Zby rfl rfl ZbB Zbz ZbH Zbx ZbD trivial rfl ?_;rintro _ _ ⟨rfl,rfl⟩;refine Kr ?_;refine Bi (σ':=⟨[(0,.ptr 0 0),(3,.ptr 3 0)],[.var 103 [.own 1],.row 5 1 (CA (b++Bs c.kind++CH c.p++Bs c.n++Bs c.d++Bs c.r++CC c.o++Bj c.l++Bp Bs c.s)),.pin [(z,.own 0)],.var 34 ((EM c).map .d)]⟩) ?_ ?_
 .exact ZkD
 refine Go ?_;refine AU [0,1] [] [] (x) Zby rfl rfl ZbB Zbz ZbH Zbx ZbD trivial rfl ?_;rintro _ _ ⟨rfl,rfl⟩;refine Kr ?_;refine Bi (σ':=⟨[(0,.ptr 0 0),(3,.ptr 3 0)],[.var 103 [.own 1],.row 5 1 (CA (b++Bs c.kind++CH c.p++Bs c.n++Bs c.d++Bs c.r++CC c.o++Bj c.l++Bp Bs c.s++Gm c.b)),.pin [(z,.own 0)],.var 34 ((EM c).map .d)]⟩) ?_ ?_
 .exact ZkD
 apply AWl.nil
 first | refine Bt RetsA.none rfl ?_ rfl | refine AW RetsA.none rfl ?_ rfl
 exact⟨rfl,by simp only[Ix,Yaf];rfl⟩
theorem A8G(e:Crt)(h:CrW e):Wr 112 (AP (DI e)) (Kk e):=Wr.intro λb E=>by
 simp only[Kk,Yac]at E;have c:=FS e.n h.n (b) ZbK;have q:=JU e.cof h.cof (b++Bs e.n) ZbK;have A:=JU e.g h.g (b++Bs e.n++Bj e.cof) ZbK;have K:=Sj e.o h.o (b++Bs e.n++Bj e.cof++Bj e.g) ZbK;have Q:=Pa e.c h.c (b++Bs e.n++Bj e.cof++Bj e.g++CC e.o) ZbK;have k:=Pa e.q h.q (b++Bs e.n++Bj e.cof++Bj e.g++CC e.o++BQ e.c) ZbK;have B:=Pa e.s h.s (b++Bs e.n++Bj e.cof++Bj e.g++CC e.o++BQ e.c++BQ e.q) ZbK;have g:=VQ e.r h.r (b++Bs e.n++Bj e.cof++Bj e.g++CC e.o++BQ e.c++BQ e.q++BQ e.s) ZbK;have x:=AcW e.a h.a (b++Bs e.n++Bj e.cof++Bj e.g++CC e.o++BQ e.c++BQ e.q++BQ e.s++JH e.r) ZbK;have S:=AcU e.sq h.sq (b++Bs e.n++Bj e.cof++Bj e.g++CC e.o++BQ e.c++BQ e.q++BQ e.s++JH e.r++Bp GT e.a) ZbK;have X:=AcV e.x h.x (b++Bs e.n++Bj e.cof++Bj e.g++CC e.o++BQ e.c++BQ e.q++BQ e.s++JH e.r++Bp GT e.a++Bp Kt e.sq) ZbK;have v:=Zl e.b h.b (b++Bs e.n++Bj e.cof++Bj e.g++CC e.o++BQ e.c++BQ e.q++BQ e.s++JH e.r++Bp GT e.a++Bp Kt e.sq++Bp QP e.x) ZbK;refine BD func112 rfl (Ag func112 ZbG ZbG) rfl λy z j=>?_;rw[ntmps112];refine ZfP ?_;rintro _ _ ⟨rfl,rfl⟩;refine Kr ?_;refine Bi (σ':=⟨[(0,.ptr 0 0),(3,.ptr 3 0)],[.var 103 [.own 1],.row 5 1 (CA (b++Bs e.n)),.pin [(z,.own 0)],.var 46 ((DI e).map .d)]⟩) ?_ ?_
 .exact ZkD
 refine Zgp ?_;rintro _ _ ⟨rfl,rfl⟩;refine Kr ?_;refine Bi (σ':=⟨[(0,.ptr 0 0),(3,.ptr 3 0)],[.var 103 [.own 1],.row 5 1 (CA (b++Bs e.n++Bj e.cof)),.pin [(z,.own 0)],.var 46 ((DI e).map .d)]⟩) ?_ ?_
 .exact ZkD
 refine Zgq ?_;rintro _ _ ⟨rfl,rfl⟩;refine Kr ?_;refine Bi (σ':=⟨[(0,.ptr 0 0),(3,.ptr 3 0)],[.var 103 [.own 1],.row 5 1 (CA (b++Bs e.n++Bj e.cof++Bj e.g)),.pin [(z,.own 0)],.var 46 ((DI e).map .d)]⟩) ?_ ?_
 .exact ZkD
 refine Go ?_;refine AU [0,1] [] [] (K) Zby rfl rfl ZbB Zbz ZbH Zbx ZbD trivial rfl ?_;rintro _ _ ⟨rfl,rfl⟩;refine Kr ?_;refine Bi (σ':=⟨[(0,.ptr 0 0),(3,.ptr 3 0)],[.var 103 [.own 1],.row 5 1 (CA (b++Bs e.n++Bj e.cof++Bj e.g++CC e.o)),.pin [(z,.own 0)],.var 46 ((DI e).map .d)]⟩) ?_ ?_
 .exact ZkD
 refine Go ?_;refine AU [0,1] [] [] (Q) Zby rfl rfl ZbB Zbz ZbH Zbx ZbD trivial rfl ?_;rintro _ _ ⟨rfl,rfl⟩;refine Kr ?_;refine Bi (σ':=⟨[(0,.ptr 0 0),(3,.ptr 3 0)],[.var 103 [.own 1],.row 5 1 (CA (b++Bs e.n++Bj e.cof++Bj e.g++CC e.o++BQ e.c)),.pin [(z,.own 0)],.var 46 ((DI e).map .d)]⟩) ?_ ?_
 .exact ZkD
 refine Go ?_;refine AU [0,1] [] [] (k) Zby rfl rfl ZbB Zbz ZbH Zbx ZbD trivial rfl ?_;rintro _ _ ⟨rfl,rfl⟩;refine Kr ?_;refine Bi (σ':=⟨[(0,.ptr 0 0),(3,.ptr 3 0)],[.var 103 [.own 1],.row 5 1 (CA (b++Bs e.n++Bj e.cof++Bj e.g++CC e.o++BQ e.c++BQ e.q)),.pin [(z,.own 0)],.var 46 ((DI e).map .d)]⟩) ?_ ?_
 .exact ZkD
 refine Go ?_;refine AU [0,1] [] [] (B) Zby rfl rfl ZbB Zbz ZbH Zbx ZbD trivial rfl ?_;rintro _ _ ⟨rfl,rfl⟩;refine Kr ?_;refine Bi (σ':=⟨[(0,.ptr 0 0),(3,.ptr 3 0)],[.var 103 [.own 1],.row 5 1 (CA (b++Bs e.n++Bj e.cof++Bj e.g++CC e.o++BQ e.c++BQ e.q++BQ e.s)),.pin [(z,.own 0)],.var 46 ((DI e).map .d)]⟩) ?_ ?_
 .exact ZkD
 refine Go ?_;refine AU [0,1] [] [] (g) Zby rfl rfl ZbB Zbz ZbH Zbx ZbD trivial rfl ?_;rintro _ _ ⟨rfl,rfl⟩;refine Kr ?_;refine Bi (σ':=⟨[(0,.ptr 0 0),(3,.ptr 3 0)],[.var 103 [.own 1],.row 5 1 (CA (b++Bs e.n++Bj e.cof++Bj e.g++CC e.o++BQ e.c++BQ e.q++BQ e.s++JH e.r)),.pin [(z,.own 0)],.var 46 ((DI e).map .d)]⟩) ?_ ?_
 .exact ZkD
 refine ZgE ?_;refine AU [0,1] [] [] (x) Zby rfl rfl ZbB Zbz ZbH Zbx ZbD trivial rfl ?_;rintro _ _ ⟨rfl,rfl⟩;refine Kr ?_;refine Bi (σ':=⟨[(0,.ptr 0 0),(3,.ptr 3 0)],[.var 103 [.own 1],.row 5 1 (CA (b++Bs e.n++Bj e.cof++Bj e.g++CC e.o++BQ e.c++BQ e.q++BQ e.s++JH e.r++Bp GT e.a)),.pin [(z,.own 0)],.var 46 ((DI e).map .d)]⟩) ?_ ?_
 .exact ZkD
 refine ZgE ?_;refine AU [0,1] [] [] (S) Zby rfl rfl ZbB Zbz ZbH Zbx ZbD trivial rfl ?_;rintro _ _ ⟨rfl,rfl⟩;refine Kr ?_;refine Bi (σ':=⟨[(0,.ptr 0 0),(3,.ptr 3 0)],[.var 103 [.own 1],.row 5 1 (CA (b++Bs e.n++Bj e.cof++Bj e.g++CC e.o++BQ e.c++BQ e.q++BQ e.s++JH e.r++Bp GT e.a++Bp Kt e.sq)),.pin [(z,.own 0)],.var 46 ((DI e).map .d)]⟩) ?_ ?_
 .exact ZkD
 refine ZgE ?_;refine AU [0,1] [] [] (X) Zby rfl rfl ZbB Zbz ZbH Zbx ZbD trivial rfl ?_;rintro _ _ ⟨rfl,rfl⟩;refine Kr ?_;refine Bi (σ':=⟨[(0,.ptr 0 0),(3,.ptr 3 0)],[.var 103 [.own 1],.row 5 1 (CA (b++Bs e.n++Bj e.cof++Bj e.g++CC e.o++BQ e.c++BQ e.q++BQ e.s++JH e.r++Bp GT e.a++Bp Kt e.sq++Bp QP e.x)),.pin [(z,.own 0)],.var 46 ((DI e).map .d)]⟩) ?_ ?_
 .exact ZkD
 refine Go ?_;refine AU [0,1] [] [] (v) Zby rfl rfl ZbB Zbz ZbH Zbx ZbD trivial rfl ?_;rintro _ _ ⟨rfl,rfl⟩;refine Kr ?_;refine Bi (σ':=⟨[(0,.ptr 0 0),(3,.ptr 3 0)],[.var 103 [.own 1],.row 5 1 (CA (b++Bs e.n++Bj e.cof++Bj e.g++CC e.o++BQ e.c++BQ e.q++BQ e.s++JH e.r++Bp GT e.a++Bp Kt e.sq++Bp QP e.x++Gm e.b)),.pin [(z,.own 0)],.var 46 ((DI e).map .d)]⟩) ?_ ?_
 .exact ZkD
 apply AWl.nil
 first | refine Bt RetsA.none rfl ?_ rfl | refine AW RetsA.none rfl ?_ rfl
 exact⟨rfl,by simp only[Kk,Yaf];rfl⟩
theorem A2J(f:Fct)(h:FW f):Wr 48 (AP (DG f)) (EH f):=Wr.intro λb E=>by
 simp only[EH,Yac]at E;have c:=A2N f.k h.k (b) ZbK;have q:=A6v f.c h.c (b++FY f.k) ZbK;have A:=A8G f.e h.e (b++FY f.k++Ix f.c) ZbK;refine BD func48 rfl (Ag func48 ZbG ZbG) rfl λy z j=>?_;rw[ntmps48];refine ZfP ?_;rintro _ _ ⟨rfl,rfl⟩;refine Kr ?_;refine Bi (σ':=⟨[(0,.ptr 0 0),(3,.ptr 3 0)],[.var 103 [.own 1],.row 5 1 (CA (b++FY f.k)),.pin [(z,.own 0)],.var 48 ((DG f).map .d)]⟩) ?_ ?_
 .exact ZkD
 refine Zgp ?_;rintro _ _ ⟨rfl,rfl⟩;refine Kr ?_;refine Bi (σ':=⟨[(0,.ptr 0 0),(3,.ptr 3 0)],[.var 103 [.own 1],.row 5 1 (CA (b++FY f.k++Ix f.c)),.pin [(z,.own 0)],.var 48 ((DG f).map .d)]⟩) ?_ ?_
 .exact ZkD
 refine Zgq ?_;rintro _ _ ⟨rfl,rfl⟩;refine Kr ?_;refine Bi (σ':=⟨[(0,.ptr 0 0),(3,.ptr 3 0)],[.var 103 [.own 1],.row 5 1 (CA (b++FY f.k++Ix f.c++Kk f.e)),.pin [(z,.own 0)],.var 48 ((DG f).map .d)]⟩) ?_ ?_
 .exact ZkD
 apply AWl.nil
 first | refine Bt RetsA.none rfl ?_ rfl | refine AW RetsA.none rfl ?_ rfl
 exact⟨rfl,by simp only[EH,Yaf];rfl⟩
theorem A6H{id:Nat}:∀{G:AV},G.avoid [id]=true->NE id G=G
 |.d _,_=>rfl
 |.ptr i o,h=>Zbe
 |.own i,h=>Zbe
 |.fn g J,h=>by
  have:J.contains id=false:=Ydi.2 λe=>by
   have:=Yah.1 h id (Ybv.1 e);simp at this
  show(bif J.contains id then AV.d Cs else _)=_;rw[this];rfl
section
variable {P:Program} {s0:An} {n:Nat} {LL:List Oper} {frB:List (Nat×AV)} {M:(Nat->Bool)->List Ow} {lose:List (Nat×Nat)} {ks:List AV} {i:Nat} {o:Oper} {x:List (Nat×Nat)} {r:AV}
theorem A6N{id t T y sz m b bytes:Nat}{H w:Operand}{r0 r1 r2:List (List D)}(N:o.op=.call { callee:=.builtin .append,args:=#[H,w],argTypes:=#[t,t] })(L:Tab P t (.slice T) m b u)(e:Tab P T d sz bytes z)(l:z.cells.size=sz)(Y:r=.own id)(q:r0++r2=r1)
  (S:∀f,Can LL f i o->(M f)[id]? = some (.row T sz r0)/\M (Fz f i)=(M f).set id (.row T sz r1)) (C:∀f,Can LL f i o->DN ⟨frB,M f⟩ ((Hm f lose 0 ks).map HR.av) x H=.own id/\DN ⟨frB,M f⟩ ((Hm f lose 0 ks).map HR.av) x w=.d (slD y sz r2)) (X:avX LL o lose ks frB i id=true) (K:∀f,(M f).map (Ow.mapA (NE id))=M f) (Z:(r0.length+r2.length)*bytes<=140737488355328) (h:r0.length+r2.length<=4611686018427387904):XTurn P s0 n LL frB M lose ks i x o r:=λf G F hF s V a J I=>by
 subst Y;subst q;obtain⟨W,B⟩:=S f G;obtain⟨k,U⟩:=C f G;rw[B];have R:=I H Zfo;have xa:=I w Zfo;rw[k]at R;rw[U]at xa
 have xb:F.map (λp=>(p.1,NE id p.2))=F:=by
  conv=>rhs;rw[<-Yep F]
  exact YaS λp A=>by rw[A6H (A6I X G hF p A)];rfl
 have xc:=J.upd (s':=s) J.le J.ok (GS.Chg.refl s) (id:=id) (o':=.obj (LX (V id) T sz r0)) (ρ':=V) (f:=NE id) W (λb _ _=>⟨rfl,λ_=>Ydt⟩) (λ_ _=>rfl) (show RowR T sz r0 s (V id)from J.hp id _ W) (λb E=>.inl E) λO v X=>by
  cases O with
  |d x=>exact X
  |ptr j off=>
   show AVr (M f).length V s (bif Nat.beq j id then .d Cs else .ptr j off) v
   cases Nat.beq j id with
   |true=>trivial
   |false=>exact X
  |own j=>
   show AVr (M f).length V s (bif Nat.beq j id then .d Cs else .own j) v
   cases Nat.beq j id with
   |true=>trivial
   |false=>exact X
  |fn g Q=>
   show AVr (M f).length V s (bif Q.contains id then .d Cs else .fn g Q) v
   cases Q.contains id with
   |true=>trivial
   |false=>exact X
 rw[xb,K f]at xc;have c:=Cu W;have:=A2j N xc (YcN c) xb (by rw[Yes,K f];rfl) R.2 xa L e l Z h;rw[List.set_set,YbL]at this;exact this
theorem Aco{f:Nat->Bool}(G:Can LL f i o){A:AS}{t j:Nat}{a:AV}(C:((x.find? λp=>p.1==t).bind λp=>(ks[p.2]?).map λa=>(p.2,a))=some (j,a))(I:(lose.all λq=>!Nat.beq q.1 j||Nat.beq q.2 i||depO LL i 4 q.2)=true):DN A ((Hm f lose 0 ks).map HR.av) x (.tmp t)=a:=by
 show(match x.find? (λp=>p.1==t)with
  |some p=>match ((Hm f lose 0 ks).map HR.av)[p.2]? with
   |some h=>h.val
   |none=>.d Cs
  |none=>(Ce A.fr t).getD (.d Cs))=a
 cases E:x.find? (λp=>p.1==t)with
 |none=>rw[E]at C;cases C
 |some p=>
  rw[E]at C
  cases B:ks[p.2]? with
  |none=>simp[B]at C
  |some Y=>
   simp only[YdT,B,Ydd,YcS,YeF]at C;obtain⟨rfl,rfl⟩:=C
   dsimp only
   rw[Yav,JN λq m e=>?_,B]
   .rfl
   .have:=Yah.1 I q m
    rw[e,YcA]at this;simp only[Bool.not_true,Bool.false_or,YaT]at this;rcases this with h | h
    .rw [Yan h];exact G.no
    .cases F:f q.2 with
     |false=>rfl
     |true=>
      have:=KJ G 4 q.2 h F;exact Zic
def twr(f:Nat->Bool):List (Nat×List Nat)->List Nat
 |[]=>[]
 |(c,l)::t=>bif f c then l else twr f t
def stT(L:List Oper)(o:Oper)(i:Nat):List (Nat×List Nat)->Option (List Nat×List Nat)
  |[]=>none
  |(c,l)::t=>bif Nat.beq c i then(match t with
    |[]=>some ([],l)
    |(A,q)::_=>bif (Bw o).any (λk=>Nat.beq k A||depO L A 4 k)then some (q,l)else none)else bif depO L i 4 c then stT L o i t else none
theorem A5e{f:Nat->Bool}(G:Can LL f i o):∀{J:List (Nat×List Nat)} {K b:List Nat},stT LL o i J=some (K,b)->twr f J=K/\twr (Fz f i) J=b
 |[],_,_,h=>by cases h
 |(c,l)::t,K,b,h=>by
  unfold stT at h
  cases E:Nat.beq c i with
  |true=>
   obtain rfl:=Yan E;rw[E]at h;unfold twr;rw[G.no,JO]
   cases t with
   |nil=>cases h;exact ZjF
   |cons p t=>
    obtain⟨F,C⟩:=p
    dsimp only[cond_true]at h
    cases d:(Bw o).any (λk=>Nat.beq k F||depO LL F 4 k)with
    |false=>rw[d]at h;cases h
    |true=>
     rw[d]at h;cases h;obtain⟨k,B,Q⟩:=YbF.1 d;have L:=G.ed k B
     have:f F=true:=by
      rcases(YaT _ _).mp Q with q | q
      .rwa [Yan q]at L
      .exact KJ G 4 k q L
     unfold twr;rw[this];exact ZjF
  |false=>
   rw[E]at h
   cases d:depO LL i 4 c with
   |false=>rw[d]at h;cases h
   |true=>
    rw[d]at h
    have A:f c=false:=by
     cases N:f c with
     |false=>rfl
     |true=>
      have:=KJ G 4 c d N;exact Zic
    have I:i≠c:=λe=>by rw[e,YcA]at E;cases E
    unfold twr;rw[A,Kv I,A];exact A5e G h
variable {s0:An} {Q:Exit->AS->Prop} {L:List Oper} {S:List (List (Nat×Nat))} {R:List AV}
theorem HA{id B T c m b bytes l k j s:Nat}{r0 r1 r2:List Nat}{Y:List (Nat×List Nat)}(K:XSteps P s0 n Q LL frB (λ_=>True) M lose ks (i+1) L S R)
  (V:∀f,M f=H.set id (.row T 1 (CA (twr f Y))):=by exact λ_=>rfl) (U:Nat.blt id H.length=true:=by rfl) (F:Tab P B (.slice T) m b u:=by exact Aa rfl) (e:Tab P T d 1 bytes z:=by exact Aa rfl) (Z:z.cells.size=1:=by rfl) (xa:Nat.ble bytes 1=true:=by rfl) (hst:stT LL ⟨vz,.call { callee:=.builtin .append,args:=#[.tmp l,.tmp k],argTypes:=#[B,B] },t,vF,vG,vM⟩ i Y=some (r0,r1):=by rfl)
  (C:((x.find? λp=>p.1==l).bind λp=>(ks[p.2]?).map λa=>(p.2,a))=some (j,.own id):=by rfl) (I:(lose.all λq=>!Nat.beq q.1 j||Nat.beq q.2 i||depO LL i 4 q.2)=true:=by rfl) (J:((x.find? λp=>p.1==k).bind λp=>(ks[p.2]?).map λa=>(p.2,a))=some (s,.d (Eq c r2)):=by rfl) (g:(lose.all λq=>!Nat.beq q.1 s||Nat.beq q.2 i||depO LL i 4 q.2)=true:=by rfl)
  (A:r0++r2=r1:=by rfl) (X:avX LL ⟨vz,.call { callee:=.builtin .append,args:=#[.tmp l,.tmp k],argTypes:=#[B,B] },t,vF,vG,vM⟩ lose ks frB i id=true:=by kernel_rfl) (v:∀f,(M f).map (Ow.mapA (NE id))=M f:=by exact λ_=>rfl) (E:r0.length+r2.length<=1000000:=by simp only[Yac,YaO,Ybx,Yat,Ybg];omega) :
  XSteps P s0 n Q LL frB (λ_=>True) M lose ks i (⟨vz,.call { callee:=.builtin .append,args:=#[.tmp l,.tmp k],argTypes:=#[B,B] },t,vF,vG,vM⟩::L) (x::S) (.own id::R):=by
 have y:id<H.length:=by rwa [Ybq]at U
 have w:bytes<=1:=by rwa [YdL]at xa
 have O:(CA r0).length+(CA r2).length<=1000000:=by rw[Cg,Cg];exact E
 refine⟨XTurn.step (A6N (id:=id) (sz:=1) (r0:=CA r0) (r2:=CA r2) (r1:=CA r1) rfl F e Z rfl (by rw[<-A,CA,CA,CA,Ycg]) (λf G=>?_) (λf G=>⟨Aco G C I,Aco G J g⟩) X v ?_ ZbC) (λ_ _ h=>h),K⟩
 .obtain ⟨W,N⟩:=A5e G hst
  rw[V f,V (Fz f i),W,N,List.set_set];exact⟨YcN y,rfl⟩
 .exact Yau (YaX O w) ZbH
theorem XSteps.mk{id A T m b bytes:Nat}{O:List (Nat×List Nat)}(a:XSteps P s0 n Q LL frB (λ_=>True) M lose ks (i+1) L S R)
  (K:∀f,M f=H.set id (.row T 1 (CA (twr f O))):=by exact λ_=>rfl) (W:Nat.blt id H.length=true:=by rfl) (B:Tab P A (.slice T) m b u:=by exact Aa rfl) (E:Tab P T d 1 bytes z:=by exact Aa rfl) (V:Nat.beq T 335=false:=by rfl) (hst:(O.all λp=>depO LL i 4 p.1)=true:=by rfl) (J:(O.all λp=>!Nat.beq p.1 i)=true:=by rfl) (N:avX LL ⟨vz,.buildSlice A 0 #[],t,vF,vG,vM⟩ lose ks frB i id=true:=by kernel_rfl) (Z:∀f,AvoidR [id] [id] 0 (M f):=by intro _;repeat (first | exact AvoidR.nil | refine Aj rfl ?_ | refine AvoidR.dead ?_ | refine AvoidR.row ?_ | refine AvoidR.varD ?_)) :
  XSteps P s0 n Q LL frB (λ_=>True) M lose ks i (⟨vz,.buildSlice A 0 #[],t,vF,vG,vM⟩::L) (x::S) (.own id::R):=by
 have y:id<H.length:=by rwa [Ybq]at W
 have key:∀(g:Nat->Bool) (c:List (Nat×List Nat)),(∀p∈c,g p.1=false)->twr g c=[]:=λg c=>by
  induction c with
  |nil=>intro _;rfl
  |cons p c I=>
   intro h;obtain⟨q,l⟩:=p;unfold twr;rw[h (q,l) Ybk,I λp F=>h p (Ybc _ F)];rfl
 refine⟨XTurn.step (XTurn.m (id:=id) (sz:=1) rfl B E V rfl rfl (λf G=>?_) N Z) (λ_ _ h=>h),a⟩
 have C:∀p∈O,f p.1=false:=λp F=>by
  cases X:f p.1 with
  |false=>rfl
  |true=>
   have:=KJ G 4 p.1 (Yah.1 hst p F) X;exact Zic
 rw[K f,K (Fz f i),key f O C,key (Fz f i) O λp F=>by
  rw[Kv λe=>?_]
  .exact C p F
  .have:=Yah.1 J p F
   rw[<-e,YcA]at this;cases this]
 exact⟨YcN y,rfl⟩
end
theorem XI(s:Bool)(l:List Nat)(I:SmW l):Wb 221 (AP [eB s,wD l]) (FD s l):=Wb.intro λb E=>by
 have c:∀k,k<l.length->l.getD k 0<4294967296:=λk B=>I.1 _ (BC B);have o:=I.2;have Z:(FD s l).length=(By (2*l.length+(if s=true then 1 else 0))).length+(l.flatMap Cy).length:=by rw[FD,Yac]
 have a:2*l.length+(if s=true then 1 else 0)<18446744073709551616:=by split<;>omega
 obtain⟨N,V⟩:∃N,N=2*l.length+(if s=true then 1 else 0):=⟨_,rfl⟩;have m:FD s l=By N++l.flatMap Cy:=by rw[V];rfl
 rw[<-V]at a Z;have G:=GZ N a b ZbC;refine Dp func221 rfl (Ag func221 ZbG ZbG) rfl λy=>?_;rw[ntmps221];intro q;cases s
 .have J:N=2*l.length:=by rw [V];simp
  apply Y1;refine Bx ?_;refine Wa<|Y0<|Y1<|Wa<|Y0<|Ah<|Y1 ?_;refine Wq AB ?_;refine Wq As ?_;refine Y0<|Cf<|Ys<|Y1<|Wm ?_;refine Wq AB ?_;refine Wq As ?_;refine Wq Ro ?_;refine Wq (AO (r:=((l.length:Nat):Int)) (ao rfl) (Aa rfl) (Aa rfl) (EW ZbC)) ?_;refine Wq (Hj (r:=((2*l.length:Nat):Int)) (ao rfl) (ao rfl) ZcI) ?_;refine Wm ?_;refine Wq (Dn (r:=((2*l.length:Nat):Int)) (ao rfl) (ao rfl) ZcI) ?_
  refine Cx [0] (ZeF) rfl ZbE rfl ZbB Zbz ZbH Zbx rfl ?_;rintro _ _ ⟨rfl,rfl⟩;refine ZfR ?_;refine AC (λw e=>∃k,k<=l.length/\w=l.length-k/\e=⟨[(0,.own 0),(3,.ptr 2 0),(6,.d (eN k))],[.row 5 1 (CA (b++By N++(l.take k).flatMap Cy)),.pin [],.var 109 ([eB false,wD l].map .d)]⟩) ?le ⟨0,by omega,rfl,rfl⟩ ?round
  case le=>exact ZkE
  case round=>
   exact Zbf
 .have J:N=2*l.length+1:=by rw [V];simp
  apply Y1;refine Bx ?_;refine Wa<|Y0<|Y1<|Wa<|Y0<|Ah<|Y1 ?_;refine Wq AB ?_;refine Wq As ?_;refine Y0<|Ct<|AWp.region<|Wa<|Y0<|Y1<|Wm ?_;refine Wq AB ?_;refine Wq As ?_;refine Wq Ro ?_;refine Wq (AO (r:=((l.length:Nat):Int)) (ao rfl) (Aa rfl) (Aa rfl) (EW ZbC)) ?_;refine Wq (Hj (r:=((2*l.length:Nat):Int)) (ao rfl) (ao rfl) ZcI) ?_;refine Wm ?_;refine Wq (Dn (r:=((2*l.length+1:Nat):Int)) (ao rfl) (ao rfl) ZcI) ?_
  refine Cx [0] (ZeF) rfl ZbE rfl ZbB Zbz ZbH Zbx rfl ?_;rintro _ _ ⟨rfl,rfl⟩;refine ZfR ?_;refine AC (λw e=>∃k,k<=l.length/\w=l.length-k/\e=⟨[(0,.own 0),(3,.ptr 2 0),(6,.d (eN k))],[.row 5 1 (CA (b++By N++(l.take k).flatMap Cy)),.pin [],.var 109 ([eB true,wD l].map .d)]⟩) ?le ⟨0,by omega,rfl,rfl⟩ ?round
  case le=>exact ZkE
  case round=>
   exact Zbf
theorem EZ(q:RQ)(m:QB q):Wb 125 (AP (Hv q)) (CD q):=Wb.intro λb E=>by
 simp only[CD,Yac]at E;have c:=XI q.b q.l m.n b ZbC;have A:=XI q.b' q.l' m.d (b++FD q.b q.l) ZbW;refine Dp func125 rfl (Ag func125 ZbG ZbG) rfl λy=>?_;rw[ntmps125];intro B;refine Go ?_;refine Fn 0 5 1 (λx=>CA (([b,b++FD q.b q.l,b++FD q.b q.l++FD q.b' q.l']:List (List Nat)).getD x [])) 2 (some 0) (λk=>([3,6]:List Nat).getD k 0) [.o 0,.q (.ptr 2 0),.q (.d (AP [eB q.b,wD q.l])),.t 0,.q (.ptr 2 2),.q (.d (AP [eB q.b',wD q.l'])),.t 1,.o 2] [(3,.ptr 2 0)] [(4,.own 0)] ZbG rfl ⟨rfl,trivial⟩ (λ_ h=>by cases h;rfl) (by refine CSteps.s ?_;refine EX ?_;refine EX ?_;refine OT (c) ?_;refine EX ?_;refine EX ?_;refine OT (A) ?_;refine CSteps.s ?_;exact CSteps.nil) ZbG rfl ZbE ⟨rfl,trivial⟩ [.row 5 1 (CA (b++FD q.b q.l++FD q.b' q.l')),.pin [],.var 111 ((Hv q).map .d)] rfl ?_;refine Go ?_
 first | refine Bt (RetsA.one rfl) rfl ?_ rfl | refine AW (RetsA.one rfl) rfl ?_ rfl
 exact Zkv
theorem Je{G:Type}[Inhabited G]{e n b h F T E k:Nat}{f:G->List D}{l:List G}{q:G}(C:HO H (vC x)=some (slD T E (l.map f)))(M:vC y=.d (ex (.int i (k:Nat))))(L:Tab P U (.slice e) n b z)(A:Tab P e d h F u)(v:h=E)(B:k<l.length)(Q:q=l.getD k default):Quiet P H ⟨vz,.indexAddr U x y,t,vF,vG,vM⟩ vC (.d (Fk T (f q))):=Q▸CE C M L A v B
theorem Wc(L:List (RTm))(s:FF TW L):Wb 58 (Lh L) (CH L):=Wb.intro λb E=>by
 have g:=Dl (e:=Eu) (l:=L) λx _=>RG x;have Z:(CH L).length=(By L.length).length+(L.flatMap Eu).length:=by rw[CH,Bp,Yac]
 rw[Z]at E;have c:=GZ L.length ZbC b ZbC;refine Dp func58 rfl (Ag func58 ZbG ZbG) rfl λy=>?_;rw[ntmps58];intro C;refine Y1<|Wa<|Y0<|Y1<|Wm<|Wm ?_;refine Wq (Bh rfl (Aa rfl)) ?_;refine Wq (AO (r:=((L.length:Nat):Int)) (ao rfl) (Aa rfl) (Aa rfl) (EW ZbC)) ?_
 refine Cx [0] (c) rfl ZbE rfl ZbB Zbz ZbH Zbx rfl ?_;rintro _ _ ⟨rfl,rfl⟩;refine ZfR ?_;refine AC (λw e=>∃k,k<=L.length/\w=L.length-k/\e=⟨[(0,.own 0),(1,.d (Lh L)),(5,.d (eN k))],[.row 5 1 (CA (b++By L.length++(L.take k).flatMap Eu)),.pin []]⟩) ?le ⟨0,by omega,rfl,rfl⟩ ?round
 case le=>exact Ac Zce ZcK
 case round=>
  rintro w _ ⟨k,B,rfl,rfl⟩;by_cases O:k<L.length
  .have B:=Dh Eu O
   obtain⟨t,q⟩:∃t,t=L.getD k default:=⟨_,rfl⟩;have A:=s _ (BC O);rw[<-q]at B A;have T:(Eu t).length=(CD ⟨t.b,t.l,t.b',t.l'⟩).length+(DF (λz=>By (u64 z)) t.m 8).length:=by rw[<-Yac];rfl
   have G:=EZ ⟨t.b,t.l,t.b',t.l'⟩ ⟨A.n,A.d⟩ (b++By L.length++(L.take k).flatMap  Eu) ZbW;refine Ah<|Y1<|Wm<|Wm ?_;refine Wq (Bh rfl (Aa rfl)) ?_;refine Wq Bc ?_;refine Y0<|Ct<|Ys<|Ah<|AWp.block<|Y1<|Wm<|Wm<|Wm ?_;refine Wq (Je (k:=k) rfl (ao rfl) (Aa rfl) (Aa rfl) rfl O q) ?_;refine Wq AE ?_;refine Wq Fg ?_
   refine Cx [0] (G) rfl ZbE rfl ZbB Zbz ZbH Zbx rfl ?_;rintro _ _ ⟨rfl,rfl⟩;refine ZfR ?_;refine AC (λw e=>∃j,j<=8/\w=8-j/\e=⟨[(0,.own 0),(1,.d (Lh L)),(5,.d (eN k)),(6,.d (eN j))],[.row 5 1 (CA (b++By L.length++(L.take k).flatMap Eu++CD ⟨t.b,t.l,t.b',t.l'⟩++DF (λz=>By (u64 z)) t.m j)),.pin []]⟩) ?lej ⟨0,by omega,rfl,rfl⟩ ?roundj
   case lej=>exact Ac ZcD Zdk
   case roundj=>
    rintro w _ ⟨j,X,rfl,rfl⟩;by_cases F:j<8
    .have u:=Gu (λz=>By (u64 z)) t.m F
     have I:=GZ (u64 (t.m j)) (by unfold u64;omega) (b++By L.length++(L.take k).flatMap Eu++CD ⟨t.b,t.l,t.b',t.l'⟩++DF (λz=>By (u64 z)) t.m j) ZbK;refine Ah<|Y1<|Wm ?_;refine Wq Bc ?_;refine Y0<|Ct<|Ys<|Ah<|AWp.block<|AWp.region<|Wm<|Wm<|Wm<|Wm ?_;refine Wq (Je (k:=k) rfl (ao rfl) (Aa rfl) (Aa rfl) rfl O q) ?_;refine Wq AE ?_;refine Wq A1p ?_;refine Wq (Ie (ao rfl) (Aa rfl) rfl (If F)) ?_;refine Wq (AO (r:=((u64 (t.m j):Nat):Int)) (ao rfl) (Aa rfl) (Aa rfl) (XL (t.m j))) ?_
     refine Cx [0] (I) rfl ZbE rfl ZbB Zbz ZbH Zbx rfl ?_;rintro _ _ ⟨rfl,rfl⟩;refine ZfR ?_;exact Ziv
    .obtain rfl:j=8:=by omega
     refine ZfD ?_;exact Ac Zce (by(refine HpLe.cons (OwLe.row (by rw[Ck Eu O,<-Yaf,<-q,Yaf (_++_) (CD _)];rfl)) ?_);exact HpLe.cons (Ak rfl)<|HpLe.nil)
  .obtain rfl:k=L.length:=by omega
   refine Ah<|Y1<|Wm<|Wm ?_;refine Wq (Bh rfl (Aa rfl)) ?_;refine Wq AL ?_;refine Y0<|Cf<|Cc<|Bz<|BM<|BE<|Yn<|Y1<|Wm<|Wa<|Y0<|BR ?_
   first | refine Bt (RetsA.one rfl) rfl ?_ rfl | refine AW (RetsA.one rfl) rfl ?_ rfl
   exact⟨rfl,by rw[YaY,CH,Bp,<-Yaf];rfl⟩
theorem JV(L:List (List RTm))(s:FF PoW L):Wb 51 (Iq L) (Bj L):=Wb.intro λb E=>by
 have g:=Dl (e:=CH) (l:=L) λx _=>Kd _ _;have Z:(Bj L).length=(By L.length).length+(L.flatMap CH).length:=by rw[Bj,Bp,Yac]
 rw[Z]at E;have c:=GZ L.length ZbC b ZbC;refine Dp func51 rfl (Ag func51 ZbG ZbG) rfl λy=>?_;rw[ntmps51];intro q;refine Y1<|Wa<|Y0<|Y1<|Wm<|Wm ?_;refine Wq (Bh rfl (Aa rfl)) ?_;refine Wq (AO (r:=((L.length:Nat):Int)) (ao rfl) (Aa rfl) (Aa rfl) (EW ZbC)) ?_
 refine Cx [0] (c) rfl ZbE rfl ZbB Zbz ZbH Zbx rfl ?_;rintro _ _ ⟨rfl,rfl⟩;refine ZfR ?_;refine AC (λw e=>∃k,k<=L.length/\w=L.length-k/\e=⟨[(0,.own 0),(1,.d (Iq L)),(5,.d (eN k))],[.row 5 1 (CA (b++By L.length++(L.take k).flatMap CH)),.pin []]⟩) ?le ⟨0,by omega,rfl,rfl⟩ ?round
 case le=>exact Ac Zce ZcK
 case round=>
  rintro w _ ⟨k,B,rfl,rfl⟩;by_cases O:k<L.length
  .have B:=Dh CH O
   have G:=Wc (L.getD k default) (s _ (BC O)) (b++By L.length++(L.take k).flatMap CH) ZbW;refine Ah<|Y1<|Wm<|Wm ?_;refine Wq (Bh rfl (Aa rfl)) ?_;refine Wq Bc ?_;refine Y0<|Ct<|Ys<|Ah<|AWp.block<|AWp.region<|Wm<|Wm<|Wm ?_;refine Wq (CE (k:=k) rfl (ao rfl) (Aa rfl) (Aa rfl) rfl O) ?_;refine Wq AT ?_
   refine Cx [0] (G) rfl ZbE rfl ZbB Zbz ZbH Zbx rfl ?_;rintro _ _ ⟨rfl,rfl⟩;refine ZgU ?_;exact Ac Zce (by exact HpLe.cons (OwLe.row (by rw[Ck CH O,<-Yaf]))<|HpLe.cons (Ak rfl)<|HpLe.nil)
  .obtain rfl:k=L.length:=by omega
   refine Ah<|Y1<|Wm<|Wm ?_;refine Wq (Bh rfl (Aa rfl)) ?_;refine Wq AL ?_;refine Y0<|Cf<|Cc<|Bz<|BM<|BE<|Yn<|Y1<|Wm<|Wa<|Y0<|BR ?_
   first | refine Bt (RetsA.one rfl) rfl ?_ rfl | refine AW (RetsA.one rfl) rfl ?_ rfl
   exact⟨rfl,by rw[YaY,Bj,Bp,<-Yaf];rfl⟩
theorem RI(L:List (List (List RTm)))(s:FF PsW L):Wb 201 (TI L) (BQ L):=Wb.intro λb E=>by
 have g:=Dl (e:=Bj) (l:=L) λx _=>Kd _ _;have Z:(BQ L).length=(By L.length).length+(L.flatMap Bj).length:=by rw[BQ,Bp,Yac]
 rw[Z]at E;have c:=GZ L.length ZbC b ZbC;refine Dp func201 rfl (Ag func201 ZbG ZbG) rfl λy=>?_;rw[ntmps201];intro q;refine Y1<|Wa<|Y0<|Y1<|Wm<|Wm ?_;refine Wq (Bh rfl (Aa rfl)) ?_;refine Wq (AO (r:=((L.length:Nat):Int)) (ao rfl) (Aa rfl) (Aa rfl) (EW ZbC)) ?_
 refine Cx [0] (c) rfl ZbE rfl ZbB Zbz ZbH Zbx rfl ?_;rintro _ _ ⟨rfl,rfl⟩;refine ZfR ?_;refine AC (λw e=>∃k,k<=L.length/\w=L.length-k/\e=⟨[(0,.own 0),(1,.d (TI L)),(5,.d (eN k))],[.row 5 1 (CA (b++By L.length++(L.take k).flatMap Bj)),.pin []]⟩) ?le ⟨0,by omega,rfl,rfl⟩ ?round
 case le=>exact Ac Zce ZcK
 case round=>
  rintro w _ ⟨k,B,rfl,rfl⟩;by_cases O:k<L.length
  .have B:=Dh Bj O
   have G:=JV (L.getD k default) (s _ (BC O)) (b++By L.length++(L.take k).flatMap Bj) ZbW;refine Ah<|Y1<|Wm<|Wm ?_;refine Wq (Bh rfl (Aa rfl)) ?_;refine Wq Bc ?_;refine Y0<|Ct<|Ys<|Ah<|AWp.block<|AWp.region<|Wm<|Wm<|Wm ?_;refine Wq (CE (k:=k) rfl (ao rfl) (Aa rfl) (Aa rfl) rfl O) ?_;refine Wq AT ?_
   refine Cx [0] (G) rfl ZbE rfl ZbB Zbz ZbH Zbx rfl ?_;rintro _ _ ⟨rfl,rfl⟩;refine ZgU ?_;exact Ac Zce (by exact HpLe.cons (OwLe.row (by rw[Ck Bj O,<-Yaf]))<|HpLe.cons (Ak rfl)<|HpLe.nil)
  .obtain rfl:k=L.length:=by omega
   refine Ah<|Y1<|Wm<|Wm ?_;refine Wq (Bh rfl (Aa rfl)) ?_;refine Wq AL ?_;refine Y0<|Cf<|Cc<|Bz<|BM<|BE<|Yn<|Y1<|Wm<|Wa<|Y0<|BR ?_
   first | refine Bt (RetsA.one rfl) rfl ?_ rfl | refine AW (RetsA.one rfl) rfl ?_ rfl
   exact⟨rfl,by rw[YaY,BQ,Bp,<-Yaf];rfl⟩
theorem XK(L:List (RQ))(s:FF QB L):Wb 202 (Hn L) (GW L):=Wb.intro λb E=>by
 have g:=Dl (e:=CD) (l:=L) λx _=>Jn x;have Z:(GW L).length=(By L.length).length+(L.flatMap CD).length:=by rw[GW,Bp,Yac]
 rw[Z]at E;have c:=GZ L.length ZbC b ZbC;refine Dp func202 rfl (Ag func202 ZbG ZbG) rfl λy=>?_;rw[ntmps202];intro q;refine Y1<|Wa<|Y0<|Y1<|Wm<|Wm ?_;refine Wq (Bh rfl (Aa rfl)) ?_;refine Wq (AO (r:=((L.length:Nat):Int)) (ao rfl) (Aa rfl) (Aa rfl) (EW ZbC)) ?_
 refine Cx [0] (c) rfl ZbE rfl ZbB Zbz ZbH Zbx rfl ?_;rintro _ _ ⟨rfl,rfl⟩;refine ZfR ?_;refine AC (λw e=>∃k,k<=L.length/\w=L.length-k/\e=⟨[(0,.own 0),(1,.d (Hn L)),(5,.d (eN k))],[.row 5 1 (CA (b++By L.length++(L.take k).flatMap CD)),.pin []]⟩) ?le ⟨0,by omega,rfl,rfl⟩ ?round
 case le=>exact Ac Zce ZcK
 case round=>
  rintro w _ ⟨k,B,rfl,rfl⟩;by_cases O:k<L.length
  .have B:=Dh CD O
   have G:=EZ (L.getD k default) (s _ (BC O)) (b++By L.length++(L.take k).flatMap CD) ZbW;refine Ah<|Y1<|Wm<|Wm ?_;refine Wq (Bh rfl (Aa rfl)) ?_;refine Wq Bc ?_;refine Y0<|Ct<|Ys<|Ah<|AWp.block<|AWp.region<|Wm<|Wm<|Wm ?_;refine Wq (CE (k:=k) rfl (ao rfl) (Aa rfl) (Aa rfl) rfl O) ?_;refine Wq Ca ?_
   refine Cx [0] (G) rfl ZbE rfl ZbB Zbz ZbH Zbx rfl ?_;rintro _ _ ⟨rfl,rfl⟩;refine ZgU ?_;exact Ac Zce (by exact HpLe.cons (OwLe.row (by rw[Ck CD O,<-Yaf]))<|HpLe.cons (Ak rfl)<|HpLe.nil)
  .obtain rfl:k=L.length:=by omega
   refine Ah<|Y1<|Wm<|Wm ?_;refine Wq (Bh rfl (Aa rfl)) ?_;refine Wq AL ?_;refine Y0<|Cf<|Cc<|Bz<|BM<|BE<|Yn<|Y1<|Wm<|Wa<|Y0<|BR ?_
   first | refine Bt (RetsA.one rfl) rfl ?_ rfl | refine AW (RetsA.one rfl) rfl ?_ rfl
   exact⟨rfl,by rw[YaY,GW,Bp,<-Yaf];rfl⟩
theorem Ym(L:List (Nat->Int))(s:FF (FG IW) L):Wb 57 (Er L) (CC L):=Wb.intro λb E=>by
 have g:=Dl (e:=Gz) (l:=L) λx _=>Is Ms _;have Z:(CC L).length=(By L.length).length+(L.flatMap Gz).length:=by rw[CC,Bp,Yac]
 rw[Z]at E;have c:=GZ L.length ZbC b ZbC;refine Dp func57 rfl (Ag func57 ZbG ZbG) rfl λy=>?_;rw[ntmps57];intro C;refine Y1<|Wa<|Y0<|Y1<|Wm<|Wm ?_;refine Wq (Bh rfl (Aa rfl)) ?_;refine Wq (AO (r:=((L.length:Nat):Int)) (ao rfl) (Aa rfl) (Aa rfl) (EW ZbC)) ?_
 refine Cx [0] (c) rfl ZbE rfl ZbB Zbz ZbH Zbx rfl ?_;rintro _ _ ⟨rfl,rfl⟩;refine ZfR ?_;refine AC (λw e=>∃k,k<=L.length/\w=L.length-k/\e=⟨[(0,.own 0),(1,.d (Er L)),(5,.d (eN k))],[.row 5 1 (CA (b++By L.length++(L.take k).flatMap Gz)),.pin []]⟩) ?le ⟨0,by omega,rfl,rfl⟩ ?round
 case le=>exact Ac Zce ZcK
 case round=>
  rintro w _ ⟨k,B,rfl,rfl⟩;by_cases O:k<L.length
  .have B:=Dh Gz O
   obtain⟨t,q⟩:∃t,t=L.getD k default:=⟨_,rfl⟩;have A:=s _ (BC O);rw[<-q]at B A;have T:(Gz t).length=(DF Bs t 8).length:=rfl;refine Ah<|Y1<|Wm<|Wm ?_;refine Wq (Bh rfl (Aa rfl)) ?_;refine Wq Bc ?_;refine Y0<|Ct<|Ys<|Ah<|AWp.block<|Y1<|Wa<|Y0<|AWp.block ?_
   refine AC (λw e=>∃j,j<=8/\w=8-j/\e=⟨[(0,.own 0),(1,.d (Er L)),(5,.d (eN k)),(6,.d (eN j))],[.row 5 1 (CA (b++By L.length++(L.take k).flatMap Gz++DF (Bs) t j)),.pin []]⟩) ?lej ⟨0,by omega,rfl,rfl⟩ ?roundj
   case lej=>exact Ac ZcD Zdk
   case roundj=>
    rintro w _ ⟨j,X,rfl,rfl⟩;by_cases F:j<8
    .have u:=Gu (Bs) t F
     have G:=FT (t j) (A j F) (b++By L.length++(L.take k).flatMap Gz++DF (Bs) t j) ZbK;refine Ah<|Y1<|Wm ?_;refine Wq Bc ?_;refine Y0<|Ct<|Ys<|Ah<|AWp.block<|AWp.region<|Wm<|Wm<|Wm<|Wm ?_;refine Wq (Je (k:=k) rfl (ao rfl) (Aa rfl) (Aa rfl) rfl O q) ?_;refine Wq (Md (k:=j) (ao rfl) (ao rfl) (Aa rfl) (Aa rfl) F) ?_;refine Wq (Ie (ao rfl) (Aa rfl) rfl (If F)) ?_
     refine Cx [0] (G) rfl ZbE rfl ZbB Zbz ZbH Zbx rfl ?_;rintro _ _ ⟨rfl,rfl⟩;refine ZfR ?_;exact Ziv
    .obtain rfl:j=8:=by omega
     refine ZfD ?_;exact Ac Zce (by(refine HpLe.cons (OwLe.row (by rw[Ck Gz O,<-Yaf,<-q];rfl)) ?_);exact HpLe.cons (Ak rfl)<|HpLe.nil)
  .obtain rfl:k=L.length:=by omega
   refine Ah<|Y1<|Wm<|Wm ?_;refine Wq (Bh rfl (Aa rfl)) ?_;refine Wq AL ?_;refine Y0<|Cf<|Cc<|Bz<|BM<|BE<|Yn<|Y1<|Wm<|Wa<|Y0<|BR ?_
   first | refine Bt (RetsA.one rfl) rfl ?_ rfl | refine AW (RetsA.one rfl) rfl ?_ rfl
   exact⟨rfl,by rw[YaY,CC,Bp,<-Yaf];rfl⟩
theorem A77{E:Array Field}{Y:Field}(C:vC x=.d (Fk k v))(B:Tab P U (.struct E) b T z)(p:E[n]? = some Y)(q:Tab P Y.type d m c u)(g:Nat.beq m 0=false)(A:Y.offset=f):Quiet P H ⟨vz,.fieldAddr U x n,t,vF,vG,vM⟩ vC (.d (Fk k (v.drop f))):=by
 subst A;exact OF (o:=⟨vz,.fieldAddr U x n,t,vF,vG,vM⟩) rfl C B p q (YaJ g)
theorem A1I{f:Nat->RQ×RQ}(h:n<8):PartAt (((DB f).drop (n*8)).drop 0) 0 4 (Hv (f n).1):=by
 have q:=Do (c:=λi=>Ju (f i)) (n:=8) (λ_=>rfl) h;have I:(GY λi=>Ju (f i)).length=64:=Ey (n:=8) (λ_=>rfl);refine⟨by simp only[DB,Ybx,I];omega,?_⟩;have A:=q.eq;have:(Hv (f n).1)=(Ju (f n)).take 4:=rfl;rw[this,<-A,YaW,YaW,YeQ];rfl
theorem A1H{f:Nat->RQ×RQ}(h:n<8):PartAt (((DB f).drop (n*8)).drop 4) 0 4 (Hv (f n).2):=by
 have q:=Do (c:=λi=>Ju (f i)) (n:=8) (λ_=>rfl) h;have I:(GY λi=>Ju (f i)).length=64:=Ey (n:=8) (λ_=>rfl);refine⟨by simp only[DB,Ybx,I];omega,?_⟩;have A:=q.eq;have:(Hv (f n).2)=(Ju (f n)).drop 4:=rfl;rw[this,<-A,YaW,List.drop_take];rfl
theorem Zm(L:List (Nat->RQ×RQ))(s:FF (FG VW) L):Wb 203 (Gl L) (Gm L):=Wb.intro λb E=>by
 have g:=Dl (e:=Hg) (l:=L) λx _=>Is Pw _;have Z:(Gm L).length=(By L.length).length+(L.flatMap Hg).length:=by rw[Gm,Bp,Yac]
 rw[Z]at E;have c:=GZ L.length ZbC b ZbC;refine Dp func203 rfl (Ag func203 ZbG ZbG) rfl λy=>?_;rw[ntmps203];intro F;refine Y1<|Wa<|Y0<|Y1<|Wm<|Wm ?_;refine Wq (Bh rfl (Aa rfl)) ?_;refine Wq (AO (r:=((L.length:Nat):Int)) (ao rfl) (Aa rfl) (Aa rfl) (EW ZbC)) ?_
 refine Cx [0] (c) rfl ZbE rfl ZbB Zbz ZbH Zbx rfl ?_;rintro _ _ ⟨rfl,rfl⟩;refine ZfR ?_;refine AC (λw e=>∃k,k<=L.length/\w=L.length-k/\e=⟨[(0,.own 0),(1,.d (Gl L)),(5,.d (eN k))],[.row 5 1 (CA (b++By L.length++(L.take k).flatMap Hg)),.pin []]⟩) ?le ⟨0,by omega,rfl,rfl⟩ ?round
 case le=>exact Ac Zce ZcK
 case round=>
  rintro w _ ⟨k,B,rfl,rfl⟩;by_cases O:k<L.length
  .have B:=Dh Hg O
   obtain⟨t,A⟩:∃t,t=L.getD k default:=⟨_,rfl⟩;have C:=s _ (BC O);rw[<-A]at B C;have T:(Hg t).length=(DF GT t 8).length:=rfl;refine Ah<|Y1<|Wm<|Wm ?_;refine Wq (Bh rfl (Aa rfl)) ?_;refine Wq Bc ?_;refine Y0<|Ct<|Ys<|Ah<|AWp.block<|Y1<|Wa<|Y0<|AWp.block ?_
   refine AC (λw e=>∃j,j<=8/\w=8-j/\e=⟨[(0,.own 0),(1,.d (Gl L)),(5,.d (eN k)),(6,.d (eN j))],[.row 5 1 (CA (b++By L.length++(L.take k).flatMap Hg++DF GT t j)),.pin []]⟩) ?lej ⟨0,by omega,rfl,rfl⟩ ?roundj
   case lej=>exact Ac ZcD Zdk
   case roundj=>
    rintro w _ ⟨j,X,rfl,rfl⟩;by_cases I:j<8
    .have u:=Gu GT t I
     have f:=C j I;have m:(GT (t j)).length=(CD (t j).1).length+(CD (t j).2).length:=by rw[GT,Yac]
     have c:=EZ (t j).1 f.1 (b++By L.length++(L.take k).flatMap Hg++DF GT t j) ZbW;have q:=EZ (t j).2 f.2 (b++By L.length++(L.take k).flatMap Hg++DF GT t j++CD (t j).1) ZbW;refine Go ?_;refine Fn 0 5 1 (λG=>CA (([b++By L.length++(L.take k).flatMap Hg++DF GT t j,b++By L.length++(L.take k).flatMap Hg++DF GT t j++CD (t j).1,b++By L.length++(L.take k).flatMap Hg++DF GT t j++CD (t j).1++CD (t j).2]:List (List Nat)).getD G [])) 2 (some 0) (λk=>([8,16]:List Nat).getD k 0) [.o 0,.q (.d (Gl L)),.q (.d (eN k)),.q (.d (eN j)),.q (.d (Fk 131 (DB t))),.q (.d (Fk 131 ((DB t).drop (j*8)))),.q (.d (Fk 131 (((DB t).drop (j*8)).drop 0))),.q (.d (AP (Hv (t j).1))),.t 0,.q (.d (Gl L)),.q (.d (eN k)),.q (.d (eN j)),.q (.d (Fk 131 (DB t))),.q (.d (Fk 131 ((DB t).drop (j*8)))),.q (.d (Fk 131 (((DB t).drop (j*8)).drop 4))),.q (.d (AP (Hv (t j).2))),.t 1,.o 2] [(1,.d (Gl L)),(5,.d (eN k)),(6,.d (eN j))] [(0,.own 0),(1,.d (Gl L)),(5,.d (eN k)),(6,.d (eN j))] ZbG rfl ⟨rfl,rfl,rfl,trivial⟩ (λ_ h=>by cases h;rfl) (by refine CSteps.s ?_;refine EX ?_;refine EX ?_;refine EX ?_;refine EX ?_;refine EX ?_;refine EX ?_;refine EX ?_;refine OT (c) ?_;refine EX ?_;refine EX ?_;refine EX ?_;refine EX ?_;refine EX ?_;refine EX ?_;refine EX ?_;refine OT (q) ?_;refine CSteps.s ?_;exact CSteps.nil) ZbG rfl ZbE ⟨rfl,rfl,rfl,rfl,trivial⟩ [.row 5 1 (CA (b++By L.length++(L.take k).flatMap Hg++DF GT t j++CD (t j).1++CD (t j).2)),.pin []] rfl ?_;refine Go ?_;refine Ai (8-(j+1)) ZbC ⟨j+1,by omega,rfl,rfl⟩ ?_;exact Ac ZcD (by(refine HpLe.cons (OwLe.row (by rw[Es,GT];simp only[Yaf])) ?_);exact HpLe.cons (Ak rfl)<|HpLe.nil)
    .obtain rfl:j=8:=by omega
     refine ZfD ?_;exact Ac Zce (by(refine HpLe.cons (OwLe.row (by rw[Ck Hg O,<-Yaf,<-A];rfl)) ?_);exact HpLe.cons (Ak rfl)<|HpLe.nil)
  .obtain rfl:k=L.length:=by omega
   refine Ah<|Y1<|Wm<|Wm ?_;refine Wq (Bh rfl (Aa rfl)) ?_;refine Wq AL ?_;refine Y0<|Cf<|Cc<|Bz<|BM<|BE<|Yn<|Y1<|Wm<|Wa<|Y0<|BR ?_
   first | refine Bt (RetsA.one rfl) rfl ?_ rfl | refine AW (RetsA.one rfl) rfl ?_ rfl
   exact⟨rfl,by rw[YaY,Gm,Bp,<-Yaf];rfl⟩
end
