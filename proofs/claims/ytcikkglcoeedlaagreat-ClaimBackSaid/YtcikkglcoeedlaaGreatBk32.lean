/- Part 32. No condition. -/
import Derived.Test.YtcikkglcoeedlaaGreatBk18
import Derived.Test.YtcikkglcoeedlaaGreatBk19
import Derived.Test.YtcikkglcoeedlaaGreatBk26
import Derived.Test.YtcikkglcoeedlaaGreatBk27
import Derived.Test.YtcikkglcoeedlaaGreatBk28
import Derived.Test.YtcikkglcoeedlaaGreatBk29
import Derived.Test.YtcikkglcoeedlaaGreatBk31
set_option linter.unusedSimpArgs false
set_option linter.unusedVariables false
set_option maxRecDepth 100000
set_option maxHeartbeats 2000000
namespace Go.Proofs.YtcikkglcoeedlaaGreat
open _root_.Go.Proofs.Tryz
variable{e:Type}{uj:e->Prop}
section
open Go.RowKit
open Classical
theorem A9R(f:Fct):B8 (To f):=by
 unfold To;split
 .exact OV f
 .exact .nil
theorem A1i(T:TypeId)(l:List Nat)(J:Byt l)(S:l.length<=40000):Abs prog 11 [GX T l] (OX To l):=
 MW To A9R T l J S λf m h=>by
  have A:B4 l:=⟨J.lt,S⟩;obtain⟨o,-,q⟩:=A9M l f m A h;exact SP f o ZbD
def RO(c:Int):List Tm:=[⟨(c:Rat),IS 0⟩]
def PH(c:Int):Cor:=⟨1,rQ [RO c],[]⟩
theorem Qj(i:Nat):0<=IS 0 i/\IS 0 i<=65535:=by
 simp only[IS,Rm];split<;>omega
theorem XS(c:Int)(B:0<c)(A:c<=100):Abs prog 40 [ex (.int .i64 c)] (AP (Eb (PH c))):=by
 have I:((c:Int):Rat)≠0:=λe=>by
  have:c=0:=by exact_mod_cast e
  omega
 have T:=A67 0 ZbH;have u:=EX c ZbD ZbD
 have X := MS ((c : Int) : Rat) (fun _ => 0) [⟨1, IS 0⟩] 1 1 I (Jr (x := c) ZbD ZbD) (fun i K => by simp) (fun t M => by
  rw[YaC.1 M];exact(Jr (x:=1) ZbH ZbH:RSz ((1:Int):Rat) 1)) (λt M=>by
  rw[YaC.1 M];intro i K;exact Qj i) (λt M=>by
  rw[YaC.1 M];intro i K;show 0<=0+IS 0 i/\0+IS 0 i<=65535;rw[Int.zero_add];exact Qj i) ZbH ZbH
 have e:TC ((c:Int):Rat) (λ_=>0) [⟨1,IS 0⟩]=RO c:=by
  simp[TC,RO];funext i;simp[CT]
 rw[e]at X;refine Ab func40 λv=>?_;rw[ntmps40];refine Go ?_;exact AA (Am (ResV.cell rfl rfl (Aa rfl) rfl rfl rfl) (Ce (DsLe.cons (D.le.refl _) (DsLe.cons (Ae (by rw[show Ib (PH c).e=Ba [RO c]from(EZ _).symm];rfl)) (DsLe.cons AL DsLe.nil)))))
theorem A1o(c:Int)(I:c≠0)(m:Nat->Int):Canon [⟨(c:Rat),m⟩]:=Oh (t:=⟨(c:Rat),m⟩) (λe=>I (by
 have:((c:Int):Rat)=0:=e
 exact_mod_cast this))
theorem A9B(c:Int)(I:c≠0):Canon (RO c):=A1o c I _
theorem Abi(c:Int):PIn (RO c) 0 65535:=λt M=>by
 rw[RO,YaC]at M;subst M;intro i _;exact Qj i
theorem Abj(c:Int)(I:c≠0)(n d:Int)(f:1<=n)(e:1<=d):UH n d ((RO c).map EC):=by
 refine⟨WT (A9B c I) (Abi c),?_,?_⟩
 .rw [KF]
  have A:Ov (RO c)=1:=by
   show(0 ||| suppTo (IS 0) 8)=1;exact ZjC
  rw[A];exact Nat.one_lt_two_pow ZbD
 .rw [KF]
  have A:HV (RO c)=1:=by rfl
  omega
theorem A7w:CW (DX (RO 1)) (RO 1)=0:=ZjC
theorem A7v:¬CW (DX (RO 2)) (RO 2)=0:=ZjC
theorem A4A(n y:Int):Mw n y []:=⟨by decide,λi K=>absurd K ZbS⟩
theorem OR:Og (PH 1):=by
 refine⟨by decide,by decide,⟨by decide,λi K=>?_⟩,A4A _ _⟩;have G:i<1:=K;obtain rfl:i=0:=by omega
 refine⟨⟨Abj 1 ZbH _ _ ZbH ZbH,?_,?_⟩,λh=>absurd h ZbD⟩
 .show (0:Int)<=HV (Mk ((RO 1).map EC))
  rw[KF];exact ZjC
 .show CW (DX (Mk ((RO 1).map EC))) (Mk ((RO 1).map EC))=0
  rw[KF];exact A7w
theorem A9C:¬Og (PH 2):=λh=>by
 have A:=(h.2.2.1.2 0 ZbH).1.2.2;apply A7v;have B:CW (DX (Mk ((RO 2).map EC))) (Mk ((RO 2).map EC))=0:=A;rw[KF]at B;exact B
def exF:Fct:=⟨PH 1,⟨1,[],0,0,0,[],[],[],[]⟩,⟨0,[[]],[],[],[],[],[],⟨λ_=>0,[],λ_=>[]⟩,[],[],[],[]⟩⟩
theorem A5U (n d : Int) (e : 0 ≤ d) : UH n d [] := ⟨fun k C => absurd C ZbS, by
 show(0:Nat)<2^n.toNat;exact Ybz ZbS,by
 have h:HV (Mk [])<=0:=ZjC
 omega⟩
theorem Abk:FS (PH 1)=[2,1,1,2,0,0,0,1,2,0,0,0,1,1,0,0,0,0,0,0,0,0]:=ZjC
theorem Si:(ED exF).length=60:=ZjC
theorem LZ.nil:LZ uj []:=⟨λ_ h=>ZdC,Yaw _⟩
theorem LZ.one{x:e}(h:uj x):LZ uj [x]:=⟨λy O=>by rw[YaC.1 O];exact h,by simp⟩
theorem PZ.nil:PZ []:=⟨λ_ h=>ZdC,Yaw _⟩
theorem iw0:IW 0:=by unfold IW;omega
theorem A8D(c:Int)(B:0<c)(A:c<=100):PZ ((RO c).map EC):=by
 refine⟨λt M=>?_,by simp[RO]⟩;have e:t=EC ⟨(c:Rat),IS 0⟩:=by simpa[RO]using M
 have Y:=(Jr (x:=c) ZbD ZbD:RSz ((c:Int):Rat) 1);subst e;exact⟨⟨BG _,Yat Y.1 ZbH⟩,⟨BG _,Yat Y.2 ZbH⟩⟩
theorem A1Z(c:Int)(B:0<c)(A:c<=100):CZ (PH c):=⟨by show IW 1;unfold IW;omega,.one (A8D c B A),.nil⟩
theorem A28:FZ exF:=⟨A1Z 1 ZbH ZbH,⟨by show IW 1;unfold IW;omega,.nil,iw0,iw0,iw0,.nil,.nil,.nil,.nil⟩,⟨iw0,.one .nil,.nil,.nil,.nil,.nil,.nil,⟨λ_ _=>iw0,.nil,λ_ _=>.nil⟩,.nil,.nil,.nil,.nil⟩⟩
theorem LB.nil:LB uj []:=⟨λ_ h=>ZdC,by simp⟩
theorem LB.one{x:e}(h:uj x):LB uj [x]:=⟨λy O=>by rw[YaC.1 O];exact h,by simp⟩
theorem ib0:IB 0:=by unfold IB;omega
theorem Abr : FB exF := ⟨⟨by unfold IB; decide, .one (.one (by
 have o:=A8D 1 ZbH ZbH;have M:=o.t (EC ⟨((1:Int):Rat),IS 0⟩) (by simp[RO]);exact⟨M.n.sm,M.d.sm,λi _=>Qj i,λi K=>by show IS 0 i=0;simp only[IS,Rm];rw[Yai ZbD]⟩)),.nil⟩,⟨by unfold IB;decide,.nil,ib0,ib0,ib0,.nil,.nil,.nil,.nil⟩,⟨ib0,.one .nil,.nil,.nil,.nil,.nil,.nil,⟨⟨λ_ _=>ib0,λ_ _=>rfl⟩,.nil,⟨λ_ _=>.nil,λ_ _=>rfl⟩⟩,.nil,.nil,.nil,.nil⟩⟩
theorem A5F:OU G0 (ED exF)=some (exF,[]):=by
 have h:=A5D (G:=G0) A8A exF Abr [];rwa [YbD]at h
theorem Abs.arg{P:Program}{f:FuncId}{ds L:List D}{r:D}(h:Abs P f L r)(J:DsLe ds L):Abs P f ds r:=
 ⟨h.1,λs K F O A=>h.2 s K F (O.trans J.get.1) λk C=>(J.get.2 k (by rw[J.get.1];exact C)) s _ (A k (by rw[J.get.1];exact C))⟩
abbrev nl:D:=ex (.slice none 0 0)
abbrev zC(kind n d r:Int):List D:=[ex (.int .i64 kind),nl,ex (.int .i64 n),ex (.int .i64 d),ex (.int .i64 r),nl,nl,nl,nl]
theorem AaQ(kind n d r:Int):DsLe (zC kind n d r) (clC kind [] n d r [] [] [] []):=by
 repeat (first | exact DsLe.nil | refine DsLe.cons (D.le.refl _) ?_ | refine DsLe.cons AL ?_)
theorem A4b(kind n d r:Int):D.le (AP (zC kind n d r)) (AP (clC kind [] n d r [] [] [] [])):=Ce (AaQ kind n d r)
section
variable {P:Program} {hp:List Ow} {arg:Operand->AV} {dd:Option Tmp} {ty:TypeId} {ps:String} {af:Array Edge} {gd:Option (Nat×Bool)}
theorem UB{T U:TypeId}{x y:Operand}{b c:List Nat}(E:arg x=.d (stD b))(O:arg y=.d (stD c))(F:∀z∈b,z<256)(I:∀z∈c,z<256)(h:b=c):Quiet P hp ⟨dd,.binOp .neq T x y U,ty,ps,af,gd⟩ arg (.d (ex (.bool false))):=by
 have:=Zd (P:=P) (hp:=hp) (dd:=dd) (ty:=ty) (ps:=ps) (af:=af) (gd:=gd) (T:=T) (U:=U) E O F I;rwa [Yak h]at this
end
theorem exB:Abs prog 25 [AP [ex (.int .i64 8),nl,nl],AP (zC 13 2 0 0)] (FY [ex (.int .i64 2),ex (.int .i64 (-1))]):=
 (A1p 8 nl [] ⟨13,([]:List Tm).map EC,2,0,0,[],[],[],[]⟩ ZbH).arg (DsLe.cons (Ce (DsLe.cons (D.le.refl _) (DsLe.cons (D.le.refl _) (DsLe.cons AL DsLe.nil)))) (DsLe.cons (by rw[A0t];exact A4b _ _ _ _) DsLe.nil))
theorem Ac8:Abs prog 11 [nl] (FY [AP (El OW),ex (.int .i64 3)]):=by
 have c:OU G0 []=none:=rfl;have h:=MW (λ_=>[]) (λ_=>.nil) 5 [] (by refine⟨?_,?_⟩<;>simp) ZbH (λf m h=>by rw[c]at h;cases h);have e:NC (λ_=>[]) []=none:=by unfold NC;rw[c]
 have e:OX (λ_=>[]) []=FY [AP (El OW),ex (.int .i64 3)]:=by simp[OX,A3d,A3e,e]
 rw[e]at h;exact h.arg (DsLe.cons AL DsLe.nil)
theorem Ac4:Abs prog 79 [AP (Eb (PH 1)++EE exF.c)] (ex (.bool true)):=by
 have W:=Ou (PH 1) (A1Z 1 ZbH ZbH);rw[Yak OR]at W;have C:NV (PH 1):=⟨OR.1,OR.2.1⟩;have u:=VU (PH 1) C [] 12 PZ.nil;rw[Yak (A5U _ _ ZbH)]at u;have A:=(Ur ⟨0,[],0,0,0,[],[],[],[]⟩).arg (ds:=[AP [ex (.int .i64 0),nl,ex (.int .i64 0),ex (.int .i64 0),ex (.int .i64 0),Ep [],Ib [],Np [],Gb []]]) (DsLe.cons (Ce (DsLe.cons (D.le.refl _) (DsLe.cons AL (DsLe.cons (D.le.refl _) (DsLe.cons (D.le.refl _) (DsLe.cons (D.le.refl _) (DsLe.cons (D.le.refl _) (DsLe.cons (D.le.refl _) (DsLe.cons (D.le.refl _) (DsLe.cons (D.le.refl _) DsLe.nil)))))))))) DsLe.nil);rw[show Gd ⟨0,[],0,0,0,[],[],[],[]⟩=true from rfl]at A;obtain⟨K,f⟩:∃K,K=PH 1:=⟨_,rfl⟩;rw[<-f]at W u ⊢;rw[show EE exF.c=[ex (.int .i64 1),KD [],ex (.int .i64 0),ex (.int .i64 0),ex (.int .i64 0),Ep [],Ib [],Np [],Gb []]from rfl];clear f C;refine Ab func79 λv=>?_;rw[ntmps79];exact Zfu
theorem A5G:FH ⟨exF.e.n,[],exF.e.g,exF.e.o,exF.e.c,exF.e.q,exF.e.s,exF.e.r,exF.e.a,exF.e.sq,exF.e.x,exF.e.b⟩=true:=by
 have A:NoU exF.e.r.q:=rfl;have B:NoR exF.e.r:=λ_ _=>rfl;have L:Om exF.e.r.l no8=true:=by decide
 simp only[FH,Yak A,Yak B,L];rfl
theorem Ac6:Abs prog 86 [AP (El exF)] (ex (.bool true)):=by
 have W:=Ac4;have C:NV (PH 1):=⟨OR.1,OR.2.1⟩;have U:=A2a (PH 1) exF.c exF.e C A28.e
 rw[show JV (PH 1) exF.e=true from by
  have G:My (PH 1).n exF.e.cof:=λp G=>by
   rw[YaC.1 G];exact A5U _ _ ZbH
  simp only[JV,Yak G];rfl]at U
 have P:=(Sx ⟨exF.e.n,[],exF.e.g,exF.e.o,exF.e.c,exF.e.q,exF.e.s,exF.e.r,exF.e.a,exF.e.sq,exF.e.x,exF.e.b⟩).arg (ds:=[AP ([ex (.int .i64 exF.e.n),nl,Ib exF.e.g,Ep exF.e.o,SY exF.e.c,SY exF.e.q,SY exF.e.s]++(Ro exF.e.r++[VG exF.e.a,UR exF.e.sq,A03 exF.e.x,Gb exF.e.b]))]) (DsLe.cons (Ce ZdH) DsLe.nil);rw[A5G]at P;rw[show(El exF)=El ⟨PH 1,exF.c,exF.e⟩from rfl];obtain⟨K,f⟩:∃K,K=PH 1:=⟨_,rfl⟩;obtain⟨e,b⟩:∃e,e=exF.e:=⟨_,rfl⟩;rw[<-f]at W U ⊢;rw[<-b]at U P ⊢;rw[show exF.c=⟨1,[],0,0,0,[],[],[],[]⟩from rfl]at W U ⊢;clear f b C;refine Ab func86 λv=>?_;rw[ntmps86];refine Go ?_;refine FV (τ:=⟨[(1,.ptr 0 0),(3,.ptr 1 0),(4,.d (ex (.int .i64 ((K.e.length:Nat):Int))))],[.var 150 ((El ⟨K,⟨1,[],0,0,0,[],[],[],[]⟩,e⟩).map .d),.var 46 ((DD e).map .d)]⟩) ZbI [[],[(12,0)],[],[(14,2)],[(15,3)],[(16,4)],[(17,5)],[(18,6)],[],[(3,8),(13,1)],[(19,7)]] [.av (.ptr 0 12),.av (.d (AP (DD e))),.av (.ptr 0 0),.av (.ptr 0 0),.av (.ptr 0 0),.av (.ptr 0 1),.av (.d (Ib K.e)),.av (.d (ex (.int .i64 ((K.e.length:Nat):Int)))),.newS 46 9 (DD e),.st 8,.av (.d (ex (.int .i64 ((K.e.length:Nat):Int))))] ZbI ?_ ?_ ?_
 .refine Zgf ?_;refine Zgb ?_;refine Zgl ?_;refine Zgs ?_;exact ZfY
 .exact Ac ZcT Zcu
 exact Zfu
theorem Ac5:Abs prog 36 [AP (Eb exF.k),AP (EE exF.c),AP (DD exF.e)] (ex (.bool true)):=by
 have W:=Ac6;obtain⟨F,hF⟩:∃F,F=exF:=⟨_,rfl⟩;rw[<-hF]at W ⊢;clear hF;refine Ab func36 λv=>?_;rw[ntmps36];exact Zfu
theorem exE:Abs prog 14 [AP (El exF)] (GX 5 (ED exF)):=by
 have W:=Ac5;have L:=A25 exF A28.fw [] (by rw[Si];decide);obtain⟨f,t⟩:∃f,f=exF:=⟨_,rfl⟩;rw[<-t]at W L ⊢;clear t;refine Ab func14 λv=>?_;rw[ntmps14];apply Y1;refine Bx ?_;refine Wa<|Y0<|Ai<|Y1 ?_;refine Wq AB ?_;refine Wq AH ?_;refine Wq AB ?_;refine Wq AH ?_;refine Wq AB ?_;refine Wq AH ?_;refine Wq (AK (W)) ?_;refine Wq GR ?_;refine Y0<|Cf<|Ys<|Y1 ?_;refine Al ?_;refine Y0<|Y1 ?_;refine Wq AH ?_
 refine Zgh ?_;rintro _ _ ⟨rfl,rfl⟩;refine Kr ?_;exact Zfu
theorem Ac7:Abs prog 11 [GX 5 (ED exF)] (FY [AP (El exF),ex (.int .i64 0)]):=by
 have h := MW (fun _ => ED exF) (fun _ => OV _) 5 (ED exF) (by refine ⟨OV _, ?_⟩; rw [Si]; decide) (by rw [Si]; decide) (fun f m h => by
  rw[A5F]at h;cases h;exact exE)
 have e:NC (λ_=>ED exF) (ED exF)=some exF:=by unfold NC;rw[A5F];exact Yan rfl
 have e:OX (λ_=>ED exF) (ED exF)=FY [AP (El exF),ex (.int .i64 0)]:=by simp[OX,A3d,A3e,e]
 rwa [e]at h
theorem exK:Abs prog 20 [AP (Eb (PH 1))] (stD [2,1,1,2,0,0,0,1,2,0,0,0,1,1,0,0,0,0,0,0,0,0]):=by
 have h:=A8g (PH 1) (A1Z 1 ZbH ZbH) (by rw[Abk];decide);rwa [show A7z (PH 1)=FS (PH 1)from Yan OR,Abk]at h
theorem exV:Abs prog 32 [AP (Eb (PH 2))] (ex (.bool false)):=by
 have h:=Pb (PH 2) (A1Z 2 ZbH ZbH);rwa [Yad A9C]at h
theorem exA:Abs prog 21 [AP [ex (.int .i64 4),nl,nl]] (stD [8,0,0]):=by
 have h := A8k 4 [] [] (by unfold IW; omega) (fun _ h => by cases h) (fun _ h => by cases h) (by
  have:A3i 4 [] []=[8,0,0]:=ZjC
  rw[this];decide)
 rw[show A3i 4 [] []=[8,0,0]by decide +kernel]at h;exact h.arg (DsLe.cons (Ce (DsLe.cons (D.le.refl _) (DsLe.cons AL (DsLe.cons AL DsLe.nil)))) DsLe.nil)
theorem exS:Abs prog 13 [AP (El exF),AP (El exF)] (ex (.bool true)):=by
 have h:=UE exF exF A28.fw A28.fw (by rw[Si];decide) (by rw[Si];decide);rwa [Yak rfl]at h
theorem exN:Abs prog 27 [AP (Eb (PH 1)),AP [ex (.int .i64 5),nl,nl],AP (zC 6 4 3 1)] (ex (.bool true)):=by
 refine Ab func27 λv=>?_;rw[ntmps27];exact Zfu
theorem A9P(kind y n g d e r C:Int):Abs prog 29 [AP (zC kind n d r),AP (zC y g e C)] (ex (.bool ((Xa (decide (CW [] []=0)) kind y n g d e r C [] []||rgP kind (Tb 1073741824 kind n d) (Tb 1073741824 y g e) (Zz 1073741824 kind n r 0) (Zz 1073741824 y g C 0)||(kind==2&&((Tb 1073741824 y g e).1==0&&(Tb 1073741824 y g e).2==0)))||(Xa (decide (CW [] []=0)) y kind g n e d C r [] []||rgP y (Tb 1073741824 y g e) (Tb 1073741824 kind n d) (Zz 1073741824 y g C 0) (Zz 1073741824 kind n r 0)||(y==2&&((Tb 1073741824 kind n d).1==0&&(Tb 1073741824 kind n d).2==0)))))):=by
 have A:=Un kind y [] [] n g d e r C [] [] [] [] [] [] [] [] (λ_ h=>by cases h) (λ_ h=>by cases h) ZbH ZbH ZbH ZbH ZbH ZbH _ _ _ _ rfl rfl rfl rfl;have B:=Un y kind [] [] g n e d C r [] [] [] [] [] [] [] [] (λ_ h=>by cases h) (λ_ h=>by cases h) ZbH ZbH ZbH ZbH ZbH ZbH _ _ _ _ rfl rfl rfl rfl;exact(A3Q A B).arg (DsLe.cons (A4b _ _ _ _) (DsLe.cons (A4b _ _ _ _) DsLe.nil))
theorem Acb:Abs prog 29 [AP (zC 12 2 0 0),AP (zC 13 3 0 0)] (ex (.bool true)):=A9P 12 13 2 3 0 0 0 0
theorem Aca:Abs prog 29 [AP (zC 12 2 0 0),AP (zC 13 2 0 0)] (ex (.bool false)):=A9P 12 13 2 2 0 0 0 0
theorem Ac9:Abs prog 29 [AP (zC 5 1 1 0),AP (zC 6 4 3 1)] (ex (.bool true)):=A9P 5 6 1 4 1 3 0 1
theorem VK:Abs prog 10 [] (ex (.bool true)):=by
 have B:=XS 1 ZbH ZbH;have Z:=XS 2 ZbH ZbH;refine Ab func10 λv=>?_;rw[ntmps10];have w:=exB;have o:=Ac8;refine Go ?_;refine Wq (HJ (l:=[2,1,1,2,0,0,0,1,2,0,0,0,1,1,0,0,0,0,0,0,0,0]) rfl (Aa rfl) (Aa rfl) (Aa rfl)) ?_;refine Wa<|Y0<|Y1 ?_;refine Wq (AK (B)) ?_;(refine De rfl rfl ?_;(refine AI (Aa rfl) rfl rfl rfl ?_;(repeat ((first | refine⟨_,Aw (ao rfl),?_⟩ | refine⟨_,Po rfl,?_⟩);refine⟨_,rfl,?_⟩));refine⟨_,rfl,?_⟩));refine WQ (Aa rfl) (Aa rfl) rfl rfl rfl rfl rfl ?_
 refine Bj (σ':=⟨[(0,.d (ex (.bool false))),(1,.ptr 0 0),(2,.ptr 1 0),(3,.d (ex (.int .i64 2))),(4,.d (ex (.int .i64 (-1)))),(6,.d (ex (.int .i64 3))),(7,.d (stD [2,1,1,2,0,0,0,1,2,0,0,0,1,1,0,0,0,0,0,0,0,0])),(25,.d (AP (Eb (PH 1)))),(26,.d (AP (zC 1 0 0 0))),(27,.d (BS []))],[.var 34 ((zC 6 4 3 1).map .d),.var 34 ((zC 12 2 0 0).map .d)]⟩) ?wk ?_
 case wk=>exact Ac (by exact Yd<|Yp<|Yp<|Yd<|Yd<|Yd<|Yd<|Yd<|Yd<|FrLe.cons rfl (Is rfl (D.le.refl _))<|FrLe.nil) Zcu
 (refine De rfl rfl ?_;(refine DF (Aa rfl) (Aa rfl) rfl rfl rfl rfl rfl ?_;(repeat ((first | refine⟨_,Aw (ao rfl),?_⟩ | refine⟨_,Po rfl,?_⟩);refine⟨_,rfl,?_⟩));refine⟨_,rfl,?_⟩));(refine De rfl rfl ?_;(refine AI (Aa rfl) rfl rfl rfl ?_;(repeat ((first | refine⟨_,Aw (ao rfl),?_⟩ | refine⟨_,Po rfl,?_⟩);refine⟨_,rfl,?_⟩));refine⟨_,rfl,?_⟩));(refine De rfl rfl ?_;(refine AI (Aa rfl) rfl rfl rfl ?_;(repeat ((first | refine⟨_,Aw (ao rfl),?_⟩ | refine⟨_,Po rfl,?_⟩);refine⟨_,rfl,?_⟩));refine⟨_,rfl,?_⟩));refine Al ?_;refine Sf ?_;refine Y0<|Y1 ?_;refine Wq AH ?_
 refine Bj (σ':=⟨[(0,.d (ex (.bool false))),(1,.ptr 0 0),(2,.ptr 1 0),(3,.d (ex (.int .i64 2))),(4,.d (ex (.int .i64 (-1)))),(6,.d (ex (.int .i64 3))),(7,.d (stD [2,1,1,2,0,0,0,1,2,0,0,0,1,1,0,0,0,0,0,0,0,0])),(8,.ptr 2 0),(32,.d (AP (El exF)))],[.var 34 ((zC 6 4 3 1).map .d),.var 34 ((zC 12 2 0 0).map .d),.var 48 ((El exF).map .d)]⟩) ?wk2 ?_
 case wk2=>exact Ac (by exact FrLe.cons rfl (AVle.d rfl) (FrLe.cons rfl (AVle.ptr rfl) (FrLe.cons rfl (AVle.ptr rfl) (FrLe.cons rfl (AVle.d rfl) (FrLe.cons rfl (AVle.d rfl) (FrLe.cons rfl (AVle.d rfl) (FrLe.cons rfl (AVle.d rfl) (FrLe.cons rfl (AVle.ptr rfl) (FrLe.cons rfl (AVle.le (Ce (by repeat (first | exact DsLe.nil | refine DsLe.cons AL ?_ | refine DsLe.cons (D.le.refl _) ?_)))) FrLe.nil))))))))) (by exact HpLe.cons (OwLe.varD rfl) (HpLe.cons (OwLe.varD rfl) (HpLe.cons (OwLe.cells (by repeat (first | exact CellsLe.nil | refine CellsLe.cons (AVle.le AL) ?_ | refine CellsLe.cons (AVle.d rfl) ?_))) HpLe.nil)))
 have P:=exE;have G:=Ac7;have a:=exS;obtain⟨F,hF⟩:∃F,F=exF:=⟨_,rfl⟩;rw[<-hF]at P G a ⊢;obtain⟨E,V⟩:∃E,E=ED F:=⟨_,rfl⟩;rw[<-V]at P G;clear hF V;refine Go ?_;refine Dy 37 ?_;have i:=exK;refine DO ?_;refine⟨_,HStep.q rfl (UB (b:=[2,1,1,2,0,0,0,1,2,0,0,0,1,1,0,0,0,0,0,0,0,0]) (c:=[2,1,1,2,0,0,0,1,2,0,0,0,1,1,0,0,0,0,0,0,0,0]) rfl rfl ZbH ZbH rfl),?_⟩;have R:=exA;refine DO ?_;refine⟨_,Be rfl rfl (HJ (l:=[8,0,0]) rfl (Aa rfl) (Aa rfl) (Aa rfl)),?_⟩;refine⟨_,rfl,?_⟩;refine⟨_,Be rfl rfl (UB (b:=[8,0,0]) (c:=[8,0,0]) rfl rfl ZbH ZbH rfl),?_⟩;have N:=exV;refine ZfT ?_;refine Dy 20 ?_;have A:=Acb;have p:=Aca;have q:=Ac9;have r:=exN;exact ZgY
end
