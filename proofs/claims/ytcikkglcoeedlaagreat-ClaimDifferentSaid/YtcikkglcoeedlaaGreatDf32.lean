/- Part 32. No condition. -/
import Derived.Test.YtcikkglcoeedlaaGreatDf18
import Derived.Test.YtcikkglcoeedlaaGreatDf19
import Derived.Test.YtcikkglcoeedlaaGreatDf26
import Derived.Test.YtcikkglcoeedlaaGreatDf27
import Derived.Test.YtcikkglcoeedlaaGreatDf28
import Derived.Test.YtcikkglcoeedlaaGreatDf29
import Derived.Test.YtcikkglcoeedlaaGreatDf31
set_option linter.all false
set_option maxRecDepth 100000
set_option maxHeartbeats 2000000
namespace Go.Proofs.YtcikkglcoeedlaaGreat
open _root_.Go.Proofs.Tryz
variable{e:Type}{ur:e->Prop}
section
open Go.RowKit
def Si(c:Int):List Tm:=[⟨(c:Rat),IX 0⟩]
def PT(c:Int):Cor:=⟨1,rQ [Si c],[]⟩
theorem Qy(i:Nat):0<=IX 0 i/\IX 0 i<=65535:=by
 simp only[IX,RA];split<;>omega
theorem Yj(c:Int)(d:0<c)(q:c<=100):Abs prog 40 [eI c] (AQ (Ec (PT c))):=by
 have F:((c:Int):Rat)≠0:=λe=>by
  have:c=0:=by exact_mod_cast e
  omega
 have Q:=A6n 0 ZbL;have E:=EW c ZbG ZbG
 have g := MU ((c : Int) : Rat) (fun _ => 0) [⟨1, IX 0⟩] 1 1 F (Jw (x := c) ZbG ZbG) (fun i J => by simp) (fun t L => by
  rw[Yaz.1 L];exact(Jw (x:=1) ZbL ZbL:RSz ((1:Int):Rat) 1)) (λt L=>by
  rw[Yaz.1 L];intro i J;exact Qy i) (λt L=>by
  rw[Yaz.1 L];intro i J;show 0<=0+IX 0 i/\0+IX 0 i<=65535;rw[Int.zero_add];exact Qy i) ZbL ZbL
 have e:TX ((c:Int):Rat) (λ_=>0) [⟨1,IX 0⟩]=Si c:=by
  simp[TX,Si];funext i;simp[CT]
 rw[e]at g;refine Ab func40 λw=>?_;rw[ntmps40];refine Go ?_;exact AA (Am (ResV.cell rfl rfl (Aa rfl) rfl rfl rfl) (Ce (DsLe.cons (D.le.refl _) (DsLe.cons (Ae (by rw[show Ic (PT c).e=Ba [Si c]from(EZ _).symm];rfl)) (DsLe.cons AM DsLe.nil)))))
theorem A1A(c:Int)(F:c≠0)(m:Nat->Int):Canon [⟨(c:Rat),m⟩]:=Oo (t:=⟨(c:Rat),m⟩) (λe=>F (by
 have:((c:Int):Rat)=0:=e
 exact_mod_cast this))
theorem A9x(c:Int)(F:c≠0):Canon (Si c):=A1A c F _
theorem Ab7(c:Int):PIn (Si c) 0 65535:=λt L=>by
 rw[Si,Yaz]at L;subst L;intro i _;exact Qy i
theorem Ab8(c:Int)(F:c≠0)(n d:Int)(h:1<=n)(e:1<=d):Va n d ((Si c).map DK):=by
 refine⟨Xk (A9x c F) (Ab7 c),?_,?_⟩
 .rw [KG]
  have q:OC (Si c)=1:=by
   show(0 ||| suppTo (IX 0) 8)=1;exact ZjL
  rw[q];exact Nat.one_lt_two_pow ZbG
 .rw [KG]
  have q:HU (Si c)=1:=by rfl
  omega
theorem A7G:CW (DZ (Si 1)) (Si 1)=0:=ZjL
theorem A7F:¬CW (DZ (Si 2)) (Si 2)=0:=ZjL
theorem A4M(n I:Int):MA n I []:=⟨by decide,λi J=>absurd J ZbV⟩
theorem OY:On (PT 1):=by
 refine⟨by decide,by decide,⟨by decide,λi J=>?_⟩,A4M _ _⟩;have w:i<1:=J;obtain rfl:i=0:=by omega
 refine⟨⟨Ab8 1 ZbL _ _ ZbL ZbL,?_,?_⟩,λh=>absurd h ZbG⟩
 .show (0:Int)<=HU (Mo ((Si 1).map DK))
  rw[KG];exact ZjL
 .show CW (DZ (Mo ((Si 1).map DK))) (Mo ((Si 1).map DK))=0
  rw[KG];exact A7G
theorem A9y:¬On (PT 2):=λh=>by
 have q:=(h.2.2.1.2 0 ZbL).1.2.2;apply A7F;have A:CW (DZ (Mo ((Si 2).map DK))) (Mo ((Si 2).map DK))=0:=q;rw[KG]at A;exact A
def exF:Fct:=⟨PT 1,⟨1,[],0,0,0,[],[],[],[]⟩,⟨0,[[]],[],[],[],[],[],⟨λ_=>0,[],λ_=>[]⟩,[],[],[],[]⟩⟩
theorem A69 (n d : Int) (e : 0 ≤ d) : Va n d [] := ⟨fun k B => absurd B ZbV, by
 show(0:Nat)<2^n.toNat;exact YbA ZbV,by
 have h:HU (Mo [])<=0:=ZjL
 omega⟩
theorem Ab9:FV (PT 1)=[2,1,1,2,0,0,0,1,2,0,0,0,1,1,0,0,0,0,0,0,0,0]:=ZjL
theorem SD:(Er exF).length=60:=ZjL
theorem LZ.nil:LZ ur []:=⟨λ_ h=>ZdE,Yaw _⟩
theorem LZ.one{x:e}(h:ur x):LZ ur [x]:=⟨λy N=>by rw[Yaz.1 N];exact h,by simp⟩
theorem PZ.nil:PZ []:=⟨λ_ h=>ZdE,Yaw _⟩
theorem iw0:IW 0:=by unfold IW;omega
theorem A8J(c:Int)(d:0<c)(q:c<=100):PZ ((Si c).map DK):=by
 refine⟨λt L=>?_,by simp[Si]⟩;have e:t=DK ⟨(c:Rat),IX 0⟩:=by simpa[Si]using L
 have Z:=(Jw (x:=c) ZbG ZbG:RSz ((c:Int):Rat) 1);subst e;exact⟨⟨BG _,Yat Z.1 ZbL⟩,⟨BG _,Yat Z.2 ZbL⟩⟩
theorem A2d(c:Int)(d:0<c)(q:c<=100):CZ (PT c):=⟨by show IW 1;unfold IW;omega,.one (A8J c d q),.nil⟩
theorem A2n:FZ exF:=⟨A2d 1 ZbL ZbL,⟨by show IW 1;unfold IW;omega,.nil,iw0,iw0,iw0,.nil,.nil,.nil,.nil⟩,⟨iw0,.one .nil,.nil,.nil,.nil,.nil,.nil,⟨λ_ _=>iw0,.nil,λ_ _=>.nil⟩,.nil,.nil,.nil,.nil⟩⟩
theorem LB.nil:LB ur []:=⟨λ_ h=>ZdE,by simp⟩
theorem LB.one{x:e}(h:ur x):LB ur [x]:=⟨λy N=>by rw[Yaz.1 N];exact h,by simp⟩
theorem ib0:IB 0:=by unfold IB;omega
theorem Abg : FB exF := ⟨⟨by unfold IB; decide, .one (.one (by
 have u:=A8J 1 ZbL ZbL;have L:=u.t (DK ⟨((1:Int):Rat),IX 0⟩) (by simp[Si]);exact⟨L.n.sm,L.d.sm,λi _=>Qy i,λi J=>by show IX 0 i=0;simp only[IX,RA];rw[Yai ZbG]⟩)),.nil⟩,⟨by unfold IB;decide,.nil,ib0,ib0,ib0,.nil,.nil,.nil,.nil⟩,⟨ib0,.one .nil,.nil,.nil,.nil,.nil,.nil,⟨⟨λ_ _=>ib0,λ_ _=>rfl⟩,.nil,⟨λ_ _=>.nil,λ_ _=>rfl⟩⟩,.nil,.nil,.nil,.nil⟩⟩
theorem A5S:Sy G0 (Er exF)=some (exF,[]):=by
 have h:=A9F (G:=G0) RN exF Abg [];rwa [YbC]at h
open Classical
theorem Abs.arg{P:Program}{f:FuncId}{ds O:List D}{r:D}(h:Abs P f O r)(I:DsLe ds O):Abs P f ds r:=
 ⟨h.1,λs J C d q=>h.2 s J C (d.trans I.get.1) λk B=>(I.get.2 k (by rw[I.get.1];exact B)) s _ (q k (by rw[I.get.1];exact B))⟩
abbrev nl:D:=eS
abbrev zC(kind n d r:Int):List D:=[eI kind,nl,eI n,eI d,eI r,nl,nl,nl,nl]
theorem AaG(kind n d r:Int):DsLe (zC kind n d r) (clC kind [] n d r [] [] [] []):=by
 repeat (first | exact DsLe.nil | refine DsLe.cons (D.le.refl _) ?_ | refine DsLe.cons AM ?_)
theorem A4p(kind n d r:Int):D.le (AQ (zC kind n d r)) (AQ (clC kind [] n d r [] [] [] [])):=Ce (AaG kind n d r)
section
variable {P:Program} {hp:List Ow} {arg:Operand->AV} {dd:Option Tmp} {ty:TypeId} {ps:String} {af:Array Edge} {gd:Option (Nat×Bool)}
theorem UT{T U:TypeId}{x y:Operand}{b c:List Nat}(C:arg x=.d (TD b))(N:arg y=.d (TD c))(E:∀z∈b,z<256)(F:∀z∈c,z<256)(h:b=c):Quiet P hp ⟨dd,.binOp .neq T x y U,ty,ps,af,gd⟩ arg (.d (eB false)):=by
 have:=Zm (P:=P) (hp:=hp) (dd:=dd) (ty:=ty) (ps:=ps) (af:=af) (gd:=gd) (T:=T) (U:=U) C N E F;rwa [Yak h]at this
end
theorem exB:Abs prog 25 [AQ [eI 8,nl,nl],AQ (zC 13 2 0 0)] (Gb [eI 2,eI (-1)]):=
 (A1B 8 nl [] ⟨13,([]:List Tm).map DK,2,0,0,[],[],[],[]⟩ ZbL).arg (DsLe.cons (Ce (DsLe.cons (D.le.refl _) (DsLe.cons (D.le.refl _) (DsLe.cons AM DsLe.nil)))) (DsLe.cons (by rw[A0F];exact A4p _ _ _ _) DsLe.nil))
theorem AbV:Abs prog 11 [nl] (Gb [AQ (Eb Pc),eI 3]):=by
 have d:Sy G0 []=none:=rfl;have h:=Tj (λ_=>[]) (λ_=>.nil) 5 [] (by refine⟨?_,?_⟩<;>simp) ZbL (λf m h=>by rw[d]at h;cases h);have e:Qw (λ_=>[]) []=none:=by unfold Qw;rw[d]
 have e:TL (λ_=>[]) []=Gb [AQ (Eb Pc),eI 3]:=by simp[TL,A5W,A5X,e]
 rw[e]at h;exact h.arg (DsLe.cons AM DsLe.nil)
theorem AbR:Abs prog 79 [AQ (Ec (PT 1)++ED exF.c)] (eB true):=by
 have X:=OB (PT 1) (A2d 1 ZbL ZbL);rw[Yak OY]at X;have B:NV (PT 1):=⟨OY.1,OY.2.1⟩;have T:=Wp (PT 1) B [] 12 PZ.nil;rw[Yak (A69 _ _ ZbL)]at T;have f:=(UI ⟨0,[],0,0,0,[],[],[],[]⟩).arg (ds:=[AQ [eI 0,nl,eI 0,eI 0,eI 0,Du [],Ic [],Nw [],FX []]]) (DsLe.cons (Ce (DsLe.cons (D.le.refl _) (DsLe.cons AM (DsLe.cons (D.le.refl _) (DsLe.cons (D.le.refl _) (DsLe.cons (D.le.refl _) (DsLe.cons (D.le.refl _) (DsLe.cons (D.le.refl _) (DsLe.cons (D.le.refl _) (DsLe.cons (D.le.refl _) DsLe.nil)))))))))) DsLe.nil);rw[show FY ⟨0,[],0,0,0,[],[],[],[]⟩=true from rfl]at f;obtain⟨K,h⟩:∃K,K=PT 1:=⟨_,rfl⟩;rw[<-h]at X T ⊢;rw[show ED exF.c=[eI 1,Kc [],eI 0,eI 0,eI 0,Du [],Ic [],Nw [],FX []]from rfl];clear h B;refine Ab func79 λw=>?_;rw[ntmps79];exact Zfx
theorem A5T:FF ⟨exF.e.n,[],exF.e.g,exF.e.o,exF.e.c,exF.e.q,exF.e.s,exF.e.r,exF.e.a,exF.e.sq,exF.e.x,exF.e.b⟩=true:=by
 have q:NoU exF.e.r.q:=rfl;have A:NoR exF.e.r:=λ_ _=>rfl;have K:LU exF.e.r.l no8=true:=by decide
 simp only[FF,Yak q,Yak A,K];rfl
theorem AbT:Abs prog 86 [AQ (Eb exF)] (eB true):=by
 have X:=AbR;have B:NV (PT 1):=⟨OY.1,OY.2.1⟩;have J:=A2p (PT 1) exF.c exF.e B A2n.e
 rw[show JV (PT 1) exF.e=true from by
  have G:MD (PT 1).n exF.e.cof:=λp G=>by
   rw[Yaz.1 G];exact A69 _ _ ZbL
  simp only[JV,Yak G];rfl]at J
 have q:=(SP ⟨exF.e.n,[],exF.e.g,exF.e.o,exF.e.c,exF.e.q,exF.e.s,exF.e.r,exF.e.a,exF.e.sq,exF.e.x,exF.e.b⟩).arg (ds:=[AQ ([eI exF.e.n,nl,Ic exF.e.g,Du exF.e.o,Tu exF.e.c,Tu exF.e.q,Tu exF.e.s]++(RE exF.e.r++[VS exF.e.a,Vk exF.e.sq,A0c exF.e.x,FX exF.e.b]))]) (DsLe.cons (Ce ZdK) DsLe.nil);rw[A5T]at q;rw[show(Eb exF)=Eb ⟨PT 1,exF.c,exF.e⟩from rfl];obtain⟨K,h⟩:∃K,K=PT 1:=⟨_,rfl⟩;obtain⟨e,a⟩:∃e,e=exF.e:=⟨_,rfl⟩;rw[<-h]at X J ⊢;rw[<-a]at J q ⊢;rw[show exF.c=⟨1,[],0,0,0,[],[],[],[]⟩from rfl]at X J ⊢;clear h a B;refine Ab func86 λw=>?_;rw[ntmps86];refine Go ?_;refine FS (τ:=⟨[(1,.ptr 0 0),(3,.ptr 1 0),(4,.d (eN K.e.length))],[.var 150 ((Eb ⟨K,⟨1,[],0,0,0,[],[],[],[]⟩,e⟩).map .d),.var 46 ((DE e).map .d)]⟩) ZbK [[],[(12,0)],[],[(14,2)],[(15,3)],[(16,4)],[(17,5)],[(18,6)],[],[(3,8),(13,1)],[(19,7)]] [.av (.ptr 0 12),.av (.d (AQ (DE e))),.av (.ptr 0 0),.av (.ptr 0 0),.av (.ptr 0 0),.av (.ptr 0 1),.av (.d (Ic K.e)),.av (.d (eN K.e.length)),.newS 46 9 (DE e),.st 8,.av (.d (eN K.e.length))] ZbK ?_ ?_ ?_
 .refine Zgh ?_;refine Zgd ?_;refine Zgo ?_;refine Zgu ?_;exact Zga
 .exact Ac ZcY ZcA
 exact Zfx
theorem AbS:Abs prog 36 [AQ (Ec exF.k),AQ (ED exF.c),AQ (DE exF.e)] (eB true):=by
 have X:=AbT;obtain⟨F,hF⟩:∃F,F=exF:=⟨_,rfl⟩;rw[<-hF]at X ⊢;clear hF;refine Ab func36 λw=>?_;rw[ntmps36];exact Zfx
theorem exE:Abs prog 14 [AQ (Eb exF)] (Hf 5 (Er exF)):=by
 have X:=AbS;have K:=A2k exF A2n.fw [] (by rw[SD];decide);obtain⟨f,p⟩:∃f,f=exF:=⟨_,rfl⟩;rw[<-p]at X K ⊢;clear p;refine Ab func14 λw=>?_;rw[ntmps14];apply Y1;refine Bx ?_;refine Wa<|Y0<|Ah<|Y1 ?_;refine Wq AC ?_;refine Wq AD ?_;refine Wq AC ?_;refine Wq AD ?_;refine Wq AC ?_;refine Wq AD ?_;refine Wq (AJ (X)) ?_;refine Wq GT ?_;refine Y0<|Cf<|Ys<|Y1 ?_;refine Al ?_;refine Y0<|Y1 ?_;refine Wq AD ?_
 refine Zgj ?_;rintro _ _ ⟨rfl,rfl⟩;refine Kr ?_;exact Zfx
theorem AbU:Abs prog 11 [Hf 5 (Er exF)] (Gb [AQ (Eb exF),eI 0]):=by
 have h := Tj (fun _ => Er exF) (fun _ => Pb _) 5 (Er exF) (by refine ⟨Pb _, ?_⟩; rw [SD]; decide) (by rw [SD]; decide) (fun f m h => by
  rw[A5S]at h;cases h;exact exE)
 have e:Qw (λ_=>Er exF) (Er exF)=some exF:=by unfold Qw;rw[A5S];exact Yan rfl
 have e:TL (λ_=>Er exF) (Er exF)=Gb [AQ (Eb exF),eI 0]:=by simp[TL,A5W,A5X,e]
 rwa [e]at h
theorem exK:Abs prog 20 [AQ (Ec (PT 1))] (TD [2,1,1,2,0,0,0,1,2,0,0,0,1,1,0,0,0,0,0,0,0,0]):=by
 have h:=WX (PT 1) (A2d 1 ZbL ZbL) (by rw[Ab9];decide);rwa [show A3i (PT 1)=FV (PT 1)from Yan OY,Ab9]at h
theorem exV:Abs prog 32 [AQ (Ec (PT 2))] (eB false):=by
 have h:=UO (PT 2) (A2d 2 ZbL ZbL);rwa [Yad A9y]at h
theorem exA:Abs prog 21 [AQ [eI 4,nl,nl]] (TD [8,0,0]):=by
 have h := Xe 4 [] [] (by unfold IW; omega) (fun _ h => by cases h) (fun _ h => by cases h) (by
  have:IV 4 [] []=[8,0,0]:=ZjL
  rw[this];decide)
 rw[show IV 4 [] []=[8,0,0]by decide +kernel]at h;exact h.arg (DsLe.cons (Ce (DsLe.cons (D.le.refl _) (DsLe.cons AM (DsLe.cons AM DsLe.nil)))) DsLe.nil)
theorem exS:Abs prog 13 [AQ (Eb exF),AQ (Eb exF)] (eB true):=by
 have h:=UX exF exF A2n.fw A2n.fw (by rw[SD];decide) (by rw[SD];decide);rwa [Yak rfl]at h
theorem exN:Abs prog 27 [AQ (Ec (PT 1)),AQ [eI 5,nl,nl],AQ (zC 6 4 3 1)] (eB true):=by
 refine Ab func27 λw=>?_;rw[ntmps27];exact Zfx
theorem A9I(kind z n g d B r l:Int):Abs prog 29 [AQ (zC kind n d r),AQ (zC z g B l)] (eB ((Xs (decide (CW [] []=0)) kind z n g d B r l [] []||rgP kind (Tw 1073741824 kind n d) (Tw 1073741824 z g B) (ZJ 1073741824 kind n r 0) (ZJ 1073741824 z g l 0)||(kind==2&&((Tw 1073741824 z g B).1==0&&(Tw 1073741824 z g B).2==0)))||(Xs (decide (CW [] []=0)) z kind g n B d l r [] []||rgP z (Tw 1073741824 z g B) (Tw 1073741824 kind n d) (ZJ 1073741824 z g l 0) (ZJ 1073741824 kind n r 0)||(z==2&&((Tw 1073741824 kind n d).1==0&&(Tw 1073741824 kind n d).2==0))))):=by
 have q:=UE kind z [] [] n g d B r l [] [] [] [] [] [] [] [] (λ_ h=>by cases h) (λ_ h=>by cases h) ZbL ZbL ZbL ZbL ZbL ZbL _ _ _ _ rfl rfl rfl rfl;have A:=UE z kind [] [] g n B d l r [] [] [] [] [] [] [] [] (λ_ h=>by cases h) (λ_ h=>by cases h) ZbL ZbL ZbL ZbL ZbL ZbL _ _ _ _ rfl rfl rfl rfl;exact(A45 q A).arg (DsLe.cons (A4p _ _ _ _) (DsLe.cons (A4p _ _ _ _) DsLe.nil))
theorem AbY:Abs prog 29 [AQ (zC 12 2 0 0),AQ (zC 13 3 0 0)] (eB true):=A9I 12 13 2 3 0 0 0 0
theorem AbX:Abs prog 29 [AQ (zC 12 2 0 0),AQ (zC 13 2 0 0)] (eB false):=A9I 12 13 2 2 0 0 0 0
theorem AbW:Abs prog 29 [AQ (zC 5 1 1 0),AQ (zC 6 4 3 1)] (eB true):=A9I 5 6 1 4 1 3 0 1
theorem VY:Abs prog 10 [] (eB true):=by
 have f:=Yj 1 ZbL ZbL;have o:=Yj 2 ZbL ZbL;refine Ab func10 λw=>?_;rw[ntmps10];have H:=exB;have P:=AbV;refine Go ?_;refine Wq (EO (l:=[2,1,1,2,0,0,0,1,2,0,0,0,1,1,0,0,0,0,0,0,0,0]) rfl (Aa rfl) (Aa rfl) (Aa rfl)) ?_;refine Wa<|Y0<|Y1 ?_;refine Wq (AJ (f)) ?_;(refine Df rfl rfl ?_;(refine AI (Aa rfl) rfl rfl rfl ?_;(repeat ((first | refine⟨_,Az (ao rfl),?_⟩ | refine⟨_,Po rfl,?_⟩);refine⟨_,rfl,?_⟩));refine⟨_,rfl,?_⟩));refine Xh (Aa rfl) (Aa rfl) rfl rfl rfl rfl rfl ?_
 refine Bk (σ':=⟨[(0,.d (eB false)),(1,.ptr 0 0),(2,.ptr 1 0),(3,.d (eI 2)),(4,.d (eI (-1))),(6,.d (eI 3)),(7,.d (TD [2,1,1,2,0,0,0,1,2,0,0,0,1,1,0,0,0,0,0,0,0,0])),(25,.d (AQ (Ec (PT 1)))),(26,.d (AQ (zC 1 0 0 0))),(27,.d (BP []))],[.var 34 ((zC 6 4 3 1).map .d),.var 34 ((zC 12 2 0 0).map .d)]⟩) ?wk ?_
 case wk=>exact Ac (by exact Yd<|Yp<|Yp<|Yd<|Yd<|Yd<|Yd<|Yd<|Yd<|FrLe.cons rfl (Is rfl (D.le.refl _))<|FrLe.nil) ZcA
 (refine Df rfl rfl ?_;(refine DG (Aa rfl) (Aa rfl) rfl rfl rfl rfl rfl ?_;(repeat ((first | refine⟨_,Az (ao rfl),?_⟩ | refine⟨_,Po rfl,?_⟩);refine⟨_,rfl,?_⟩));refine⟨_,rfl,?_⟩));(refine Df rfl rfl ?_;(refine AI (Aa rfl) rfl rfl rfl ?_;(repeat ((first | refine⟨_,Az (ao rfl),?_⟩ | refine⟨_,Po rfl,?_⟩);refine⟨_,rfl,?_⟩));refine⟨_,rfl,?_⟩));(refine Df rfl rfl ?_;(refine AI (Aa rfl) rfl rfl rfl ?_;(repeat ((first | refine⟨_,Az (ao rfl),?_⟩ | refine⟨_,Po rfl,?_⟩);refine⟨_,rfl,?_⟩));refine⟨_,rfl,?_⟩));refine Al ?_;refine Sf ?_;refine Y0<|Y1 ?_;refine Wq AD ?_
 refine Bk (σ':=⟨[(0,.d (eB false)),(1,.ptr 0 0),(2,.ptr 1 0),(3,.d (eI 2)),(4,.d (eI (-1))),(6,.d (eI 3)),(7,.d (TD [2,1,1,2,0,0,0,1,2,0,0,0,1,1,0,0,0,0,0,0,0,0])),(8,.ptr 2 0),(32,.d (AQ (Eb exF)))],[.var 34 ((zC 6 4 3 1).map .d),.var 34 ((zC 12 2 0 0).map .d),.var 48 ((Eb exF).map .d)]⟩) ?wk2 ?_
 case wk2=>exact Ac (by exact FrLe.cons rfl (AVle.d rfl) (FrLe.cons rfl (AVle.ptr rfl) (FrLe.cons rfl (AVle.ptr rfl) (FrLe.cons rfl (AVle.d rfl) (FrLe.cons rfl (AVle.d rfl) (FrLe.cons rfl (AVle.d rfl) (FrLe.cons rfl (AVle.d rfl) (FrLe.cons rfl (AVle.ptr rfl) (FrLe.cons rfl (AVle.le (Ce (by repeat (first | exact DsLe.nil | refine DsLe.cons AM ?_ | refine DsLe.cons (D.le.refl _) ?_)))) FrLe.nil))))))))) (by exact HpLe.cons (OwLe.varD rfl) (HpLe.cons (OwLe.varD rfl) (HpLe.cons (OwLe.cells (by repeat (first | exact CellsLe.nil | refine CellsLe.cons (AVle.le AM) ?_ | refine CellsLe.cons (AVle.d rfl) ?_))) HpLe.nil)))
 have K:=exE;have V:=AbU;have j:=exS;obtain⟨F,hF⟩:∃F,F=exF:=⟨_,rfl⟩;rw[<-hF]at K V j ⊢;obtain⟨E,Q⟩:∃E,E=Er F:=⟨_,rfl⟩;rw[<-Q]at K V;clear hF Q;refine Go ?_;refine Dy 37 ?_;have r:=exK;refine Dw ?_;refine⟨_,HStep.q rfl (UT (b:=[2,1,1,2,0,0,0,1,2,0,0,0,1,1,0,0,0,0,0,0,0,0]) (c:=[2,1,1,2,0,0,0,1,2,0,0,0,1,1,0,0,0,0,0,0,0,0]) rfl rfl ZbL ZbL rfl),?_⟩;have d:=exA;refine Dw ?_;refine⟨_,Bb rfl rfl (EO (l:=[8,0,0]) rfl (Aa rfl) (Aa rfl) (Aa rfl)),?_⟩;refine⟨_,rfl,?_⟩;refine⟨_,Bb rfl rfl (UT (b:=[8,0,0]) (c:=[8,0,0]) rfl rfl ZbL ZbL rfl),?_⟩;have O:=exV;refine ZfU ?_;refine Dy 20 ?_;have B:=AbY;have q:=AbX;have G:=AbW;have I:=exN;exact Zhb
end
