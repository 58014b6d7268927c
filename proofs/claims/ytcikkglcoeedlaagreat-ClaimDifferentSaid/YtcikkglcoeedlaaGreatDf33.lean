/- Part 33. No condition. -/
import Derived.Test.YtcikkglcoeedlaaGreatDf19
import Derived.Test.YtcikkglcoeedlaaGreatDf28
import Derived.Test.YtcikkglcoeedlaaGreatDf30
import Derived.Test.YtcikkglcoeedlaaGreatDf32
set_option linter.all false
set_option maxRecDepth 100000
namespace Go.Proofs.YtcikkglcoeedlaaGreat
open _root_.Go.Proofs.Tryz
variable{xh:Fct}{a j:Int}{x y:Operand}{vz:Operand->AV}{P:Program}{e:Type}
section
open Go.RowKit
open Classical
noncomputable def KT (q:Nat) (L:List (Nat×List (Nat->Int))) (V:List Int):Fct:=
 ⟨GM L V,KU q L V,GN (Cw q L V).kind (AZ L) V (GM L V).e.length (Cw q L V).l.length⟩
theorem A5w(q:Nat)(L:List (Nat×List (Nat->Int)))(V:List Int):Eb (KT q L V)=Eb (Yb q L V):=by
 unfold Eb KT Yb
 dsimp only
 rw[A5y,A5x]
theorem UV(T o:Nat)(q:Nat)(i:q<256)(L:List (Nat×List (Nat->Int)))(m:Tx L)(V:List Int)(d:I8 V)(I:V.length<=9223372036854775807):Abs prog 15 [AQ (Hh T o q L V)] (AQ (Eb (KT q L V))):=by
 rw[A5w];exact A6G T o q i L m V d I
structure FOk(f:Fct):Prop where
 p:Qj f.k f.c f.e
 z:FZ f
 b:FB f
 n:(Er f).length<=39000
theorem FOk.enc(h:FOk xh):A7N xh=Er xh:=Yan h.p
theorem A2a(A:Nat)(L:List (Nat×List (Nat->Int)))(V:List Int)(d:I8 V):FOk (KT A L V):=by
 obtain⟨B,C,s,F,Y⟩:=A5v L V;obtain⟨K,T⟩:=A3f A L V d;have I:=A2c A L V;obtain⟨q,y⟩:=A82 (K:=GM L V) (C:=KU A L V) (m:=(GM L V).e.length) (c:=(Cw A L V).l.length) d rfl rfl Y rfl I (κ:=(Cw A L V).kind) rfl K.kd (Nm L);refine⟨⟨⟨B,T _ rfl⟩,q⟩,⟨C,K.z d,y.z d⟩,⟨s,K.cb d,y.cb d⟩,?_⟩;have a:=K.len d;have b:=y.len d;unfold Er;simp only[Yaa];show(FV (GM L V)).length+(IN (KU A L V)).length+(KC (GN _ _ _ _ _)).length<=_;omega
theorem RV{q:e->List Nat}{f g:Nat->e}(h:∀i,i<8->f i=g i):Jx q f=Jx q g:=by
 simp only[Jx,show List.range 8=[0,1,2,3,4,5,6,7]from rfl,YcE,List.flatMap_nil,h 0 ZbL,h 1 ZbL,h 2 ZbL,h 3 ZbL,h 4 ZbL,h 5 ZbL,h 6 ZbL,h 7 ZbL]
theorem RB:∀{P Q:List Tm},SameL P Q->(P.map DK).flatMap Ef=(Q.map DK).flatMap Ef
 |[],[],_=>rfl
 |s::P,t::Q,⟨q,A,K⟩=>by
  have e:Ef (DK s)=Ef (DK t):=by
   unfold Ef DK
   dsimp only
   rw[q,RV A]
  simp only[Ybc,YcE];rw[e,RB K]
 |[],_::_,h=>h.elim
 |_::_,[],h=>h.elim
theorem XZ:∀{P Q:List Tm},P.map DK=Q.map DK->P=Q
 |[],[],_=>rfl
 |s::P,t::Q,h=>by
  simp only[Ybc,List.cons.injEq]at h;rw[A26 h.1,XZ h.2]
 |[],_::_,h=>by simp at h
 |_::_,[],h=>by simp at h
theorem RF:∀{A B:List (Nat->Int)},NO A B->A.flatMap Fy=B.flatMap Fy
 |[],[],_=>rfl
 |a::A,b::B,h=>by
  have d:=h.2 0 (Nat.succ_pos _);have e:Fy a=Fy b:=RV (GP.1 d);have I:A.length=B.length:=Nat.succ.inj h.1;simp only[YcE];rw[e,RF ⟨I,λj W=>h.2 (j+1) (Ydn W)⟩]
 |[],_::_,h=>by have:=h.1;simp at this
 |_::_,[],h=>by have:=h.1;simp at this
theorem A3X{hp:List Ow}{dd:Option Tmp}{ty:TypeId}{ps:String}{af:Array Edge}{gd:Option (Nat×Bool)}{T U:TypeId}{b:List Nat}(C:vz x=.d (TD b))(N:vz y=.d (TD b))(E:∀z∈b,z<256):Quiet P hp ⟨dd,.binOp .eql T x y U,ty,ps,af,gd⟩ vz (.d (eB true)):=by
 have:=JZ (P:=P) (hp:=hp) (dd:=dd) (ty:=ty) (ps:=ps) (af:=af) (gd:=gd) (T:=T) (U:=U) C N E E;rwa [Yak rfl]at this
theorem Px{hp:List Ow}{dd:Option Tmp}{ty:TypeId}{ps:String}{af:Array Edge}{gd:Option (Nat×Bool)}{T U:TypeId}{a:Bool}(C:vz x=.d (eB a))(N:vz y=.d (eB a))(i:P.underlying T=some .bool):Quiet P hp ⟨dd,.binOp .eql T x y U,ty,ps,af,gd⟩ vz (.d (eB true)):=by
 have:=Mk (hp:=hp) (dd:=dd) (ty:=ty) (ps:=ps) (af:=af) (gd:=gd) (T:=T) (U:=U) C N i;rwa [beq_self_eq_true]at this
theorem A6c{P Q:List Tm}{o t:List (Nat->Int)}(E:IB a)(J:IB j)(M:PoB (P.map DK))(i:PoB (Q.map DK))(m:OrB o)(I:OrB t):IV a (P.map DK) o=IV j (Q.map DK) t↔(a=j/\SameL P Q)/\NO o t:=by
 refine⟨λh=>?_,λ⟨⟨A,C⟩,K⟩=>?_⟩
 .have B:=IG RN a E (Cp (P.map DK)++BZ o)
  have b:=IG RN j J (Cp (Q.map DK)++BZ t);rw[<-Yaf]at B b;have V:Bm a++Cp (P.map DK)++BZ o=Bm j++Cp (Q.map DK)++BZ t:=h;rw[V,b]at B;have B:=Yag B;simp only[YdT]at B;obtain⟨G,Y⟩:=B;have c:=Nq RN _ M (BZ o);have d:=Nq RN _ i (BZ t);rw[<-Y,d]at c;have c:=Yag c;simp only[YdT]at c;obtain⟨F,T⟩:=c;have e:=Ns RN _ m [];have f:=Ns RN _ I [];rw[<-T,f]at e;have e:=Yag e;simp only[YdT]at e;rw[<-XZ F,<-e.1];exact⟨⟨G.symm,SameL.refl _⟩,rfl,λq _=>GP.2 λ_ _=>rfl⟩
 .unfold IV Cp BZ Bt
  rw[A,RB C,RF K,K.1,Yap,Yap,C.length]
theorem Ya(q:Nat)(L:List (Nat×List (Nat->Int)))(V:List Int)(A:I8 V):∃P:List Tm,(KT q L V).c.p=P.map DK/\(KT q L V).c.o.length<=1000:=by
 obtain⟨kind,P,n,d,r,o,Q,s,b,e,B⟩:=Se q L V A;refine⟨P,?_,?_⟩
 .show (Cw q L V).p=_
  rw[e]
 .show (Cw q L V).o.length<=_
  rw[e];exact B.ob
theorem YU{P:List RTm}(B:-128<=a/\a<=127)(M:xh.c.p=P)(h:(Er xh).length<=39000):(IV a P xh.c.o).length<=40000:=by
 have A:(Bm a).length<=2:=A5o (by unfold TI;split<;>omega);subst M;simp only[Er,IN,Yaa]at h;simp only[IV,Yaa];omega
end
