/- Part 34 of the proof of claimAnswers_holds. No condition. -/
import Derived.Test.YtcikkglcoeedlaaGreatCa20
import Derived.Test.YtcikkglcoeedlaaGreatCa21
import Derived.Test.YtcikkglcoeedlaaGreatCa29
import Derived.Test.YtcikkglcoeedlaaGreatCa31
import Derived.Test.YtcikkglcoeedlaaGreatCa32
import Derived.Test.YtcikkglcoeedlaaGreatCa33
set_option linter.unusedSimpArgs false
set_option linter.unusedVariables false
set_option maxRecDepth 100000
set_option maxHeartbeats 2000000
namespace Go.Proofs.YtcikkglcoeedlaaGreat
variable{e:Type}{un:e->Prop}
section
open Go.RowKit
def PK(c:Int):List Tm:=[⟨(c:Rat),HI 0⟩]
def NB(c:Int):Cor:=⟨1,rQ [PK c],[]⟩
theorem Oe(i:Nat):0<=HI 0 i/\HI 0 i<=65535:=by
 simp only[HI,Pe];split<;>omega
theorem UM(c:Int)(g:0<c)(A:c<=100):Abs Tryz.prog 40 [ex (.int .i64 c)] (AJ (Fm (NB c))):=by
 have I:((c:Int):Rat)≠0:=λe=>by
  have:c=0:=by exact_mod_cast e
  omega
 have C:=A2u 0 ZbN;have u:=Ft c ZbK ZbK
 have X := Lm ((c : Int) : Rat) (fun _ => 0) [⟨1, HI 0⟩] 1 1 I (Ig (x := c) ZbK ZbK) (fun i M => by simp) (fun t J => by
  rw[List.mem_singleton.1 J];exact(Ig (x:=1) ZbN ZbN:RSz ((1:Int):Rat) 1)) (λt J=>by
  rw[List.mem_singleton.1 J];intro i M;exact Oe i) (λt J=>by
  rw[List.mem_singleton.1 J];intro i M;show 0<=0+HI 0 i/\0+HI 0 i<=65535;rw[Int.zero_add];exact Oe i) ZbN ZbN
 have e:Uc ((c:Int):Rat) (λ_=>0) [⟨1,HI 0⟩]=PK c:=by
  simp[Uc,PK];funext i;simp[Cy]
 rw[e]at X;refine Ab Tryz.func40 λB=>?_;rw[Tryz.ntmps40];refine Go ?_;exact Ak (Ah (ResV.cell rfl rfl (Aa rfl) rfl rfl rfl) (CH (DsLe.cons (D.le.refl _) (DsLe.cons (Ac (by rw[show Ip (NB c).e=FT [PK c]from(Oo _).symm];rfl)) (DsLe.cons Bf DsLe.nil)))))
theorem XY(c:Int)(I:c≠0)(m:Nat->Int):Canon [⟨(c:Rat),m⟩]:=Mu (t:=⟨(c:Rat),m⟩) (λe=>I (by
 have:((c:Int):Rat)=0:=e
 exact_mod_cast this))
theorem A5k(c:Int)(I:c≠0):Canon (PK c):=XY c I _
theorem A6L(c:Int):PIn (PK c) 0 65535:=λt J=>by
 rw[PK,List.mem_singleton]at J;subst J;intro i _;exact Oe i
theorem A6M(c:Int)(I:c≠0)(n d:Int)(i:1<=n)(Z:1<=d):BdP n d ((PK c).map EE):=by
 refine⟨A12 (A5k c I) (A6L c),?_,?_⟩
 .rw [OO]
  have A:Sx (PK c)=1:=by
   show(0 ||| suppTo (HI 0) 8)=1;exact Ziw
  rw[A];exact Nat.one_lt_two_pow ZbK
 .rw [OO]
  have A:Ji (PK c)=1:=by rfl
  omega
theorem A3K:CB (FC (PK 1)) (PK 1)=0:=Ziw
theorem A3J:¬CB (FC (PK 2)) (PK 2)=0:=Ziw
theorem A1d(n E:Int):LU n E []:=⟨by decide,λi M=>absurd M ZbV⟩
theorem MR:QL (NB 1):=by
 refine⟨by decide,by decide,⟨by decide,λi M=>?_⟩,A1d _ _⟩;have n:i<1:=M;obtain rfl:i=0:=by omega
 refine⟨⟨A6M 1 ZbN _ _ ZbN ZbN,?_,?_⟩,λh=>absurd h ZbK⟩
 .show (0:Int)<=Ji (KL ((PK 1).map EE))
  rw[OO];exact Ziw
 .show CB (FC (KL ((PK 1).map EE))) (KL ((PK 1).map EE))=0
  rw[OO];exact A3K
theorem A5l:¬QL (NB 2):=λh=>by
 have A:=(h.2.2.1.2 0 ZbN).1.2.2;apply A3J;have B:CB (FC (KL ((PK 2).map EE))) (KL ((PK 2).map EE))=0:=A;rw[OO]at B;exact B
def exF:Fct:=⟨NB 1,⟨1,[],0,0,0,[],[],[],[]⟩,⟨0,[[]],[],[],[],[],[],⟨λ_=>0,[],λ_=>[]⟩,[],[],[],[]⟩⟩
theorem A2l (n d : Int) (Z : 0 ≤ d) : BdP n d [] := ⟨fun k C => absurd C ZbV, by
 show(0:Nat)<2^n.toNat;exact Nat.pos_of_ne_zero ZbV,by
 have h:Ji (KL [])<=0:=Ziw
 omega⟩
theorem A6N:FP (NB 1)=[2,1,1,2,0,0,0,1,2,0,0,0,1,1,0,0,0,0,0,0,0,0]:=Ziw
theorem PY:(FO exF).length=60:=Ziw
theorem LZ.nil:LZ un []:=⟨λ_ h=>(by cases h),Nat.zero_le _⟩
theorem LZ.one{x:e}(h:un x):LZ un [x]:=⟨λy O=>by rw[List.mem_singleton.1 O];exact h,by simp⟩
theorem PZ.nil:PZ []:=⟨λ_ h=>(by cases h),Nat.zero_le _⟩
theorem iw0:IW 0:=by unfold IW;omega
theorem A4H(c:Int)(g:0<c)(A:c<=100):PZ ((PK c).map EE):=by
 refine⟨λt J=>?_,by simp[PK]⟩;have e:t=EE ⟨(c:Rat),HI 0⟩:=by simpa[PK]using J
 have f:=(Ig (x:=c) ZbK ZbK:RSz ((c:Int):Rat) 1);subst e;exact⟨⟨BR _,Nat.le_trans f.1 ZbN⟩,⟨BR _,Nat.le_trans f.2 ZbN⟩⟩
theorem YQ(c:Int)(g:0<c)(A:c<=100):CZ (NB c):=⟨by show IW 1;unfold IW;omega,.one (A4H c g A),.nil⟩
theorem YW:FZ exF:=⟨YQ 1 ZbN ZbN,⟨by show IW 1;unfold IW;omega,.nil,iw0,iw0,iw0,.nil,.nil,.nil,.nil⟩,⟨iw0,.one .nil,.nil,.nil,.nil,.nil,.nil,⟨λ_ _=>iw0,.nil,λ_ _=>.nil⟩,.nil,.nil,.nil,.nil⟩⟩
theorem LB.nil:LB un []:=⟨λ_ h=>(by cases h),by simp⟩
theorem LB.one{x:e}(h:un x):LB un [x]:=⟨λy O=>by rw[List.mem_singleton.1 O];exact h,by simp⟩
theorem ib0:IB 0:=by unfold IB;omega
theorem A6T : FB exF := ⟨⟨by unfold IB; decide, .one (.one (by
 have B:=A4H 1 ZbN ZbN;have J:=B.t (EE ⟨((1:Int):Rat),HI 0⟩) (by simp[PK]);exact⟨J.n.sm,J.d.sm,λi _=>Oe i,λi M=>by show HI 0 i=0;simp only[HI,Pe];rw[if_neg ZbK]⟩)),.nil⟩,⟨by unfold IB;decide,.nil,ib0,ib0,ib0,.nil,.nil,.nil,.nil⟩,⟨ib0,.one .nil,.nil,.nil,.nil,.nil,.nil,⟨⟨λ_ _=>ib0,λ_ _=>rfl⟩,.nil,⟨λ_ _=>.nil,λ_ _=>rfl⟩⟩,.nil,.nil,.nil,.nil⟩⟩
theorem A24:PU G0 (FO exF)=some (exF,[]):=by
 have h:=A5s (G:=G0) A6H exF A6T [];rwa [List.append_nil]at h
open Classical
theorem Abs.arg{P:Program}{f:FuncId}{ds o:List D}{r:D}(h:Abs P f o r)(K:DsLe ds o):Abs P f ds r:=
 ⟨h.1,λs G H A q=>h.2 s G H (A.trans K.get.1) λk C=>(K.get.2 k (by rw[K.get.1];exact C)) s _ (q k (by rw[K.get.1];exact C))⟩
abbrev nl:D:=ex (.slice none 0 0)
abbrev zC(kind n d r:Int):List D:=[ex (.int .i64 kind),nl,ex (.int .i64 n),ex (.int .i64 d),ex (.int .i64 r),nl,nl,nl,nl]
theorem A6q(kind n d r:Int):DsLe (zC kind n d r) (YZ kind [] n d r [] [] [] []):=by
 repeat (first | exact DsLe.nil | refine DsLe.cons (D.le.refl _) ?_ | refine DsLe.cons Bf ?_)
theorem A0W(kind n d r:Int):D.le (AJ (zC kind n d r)) (AJ (YZ kind [] n d r [] [] [] [])):=CH (A6q kind n d r)
section
variable {P:Program} {hp:List Ow} {arg:Operand->AV} {dd:Option Tmp} {ty:TypeId} {ps:String} {af:Array Edge} {gd:Option (Nat×Bool)}
theorem Sm{T U:TypeId}{x y:Operand}{b c:List Nat}(E:arg x=.d (Zx b))(O:arg y=.d (Zx c))(F:∀z∈b,z<256)(I:∀z∈c,z<256)(h:b=c):Quiet P hp ⟨dd,.binOp .neq T x y U,ty,ps,af,gd⟩ arg (.d (ex (.bool false))):=by
 have:=VI (P:=P) (hp:=hp) (dd:=dd) (ty:=ty) (ps:=ps) (af:=af) (gd:=gd) (T:=T) (U:=U) E O F I;rwa [decide_eq_true h]at this
end
theorem exB:Abs Tryz.prog 25 [AJ [ex (.int .i64 8),nl,nl],AJ (zC 13 2 0 0)] (EY [ex (.int .i64 2),ex (.int .i64 (-1))]):=
 (QN 8 nl [] ⟨13,([]:List Tm).map EE,2,0,0,[],[],[],[]⟩ ZbN).arg (DsLe.cons (CH (DsLe.cons (D.le.refl _) (DsLe.cons (D.le.refl _) (DsLe.cons Bf DsLe.nil)))) (DsLe.cons (by rw[Tn];exact A0W _ _ _ _) DsLe.nil))
theorem A7t:Abs Tryz.prog 11 [nl] (EY [AJ (Fa MU),ex (.int .i64 3)]):=by
 have g:PU G0 []=none:=rfl;have h:=QK (λ_=>[]) (λ_=>.nil) 5 [] (by refine⟨?_,?_⟩<;>simp) ZbN (λf m h=>by rw[g]at h;cases h);have e:Oc (λ_=>[]) []=none:=by unfold Oc;rw[g]
 have e:Re (λ_=>[]) []=EY [AJ (Fa MU),ex (.int .i64 3)]:=by simp[Re,A28,A29,e]
 rw[e]at h;exact h.arg (DsLe.cons Bf DsLe.nil)
theorem A7p:Abs Tryz.prog 79 [AJ (Fm (NB 1)++El exF.c)] (ex (.bool true)):=by
 have m:=Ro (NB 1) (YQ 1 ZbN ZbN);rw[decide_eq_true MR]at m;have C:NV (NB 1):=⟨MR.1,MR.2.1⟩;have f:=Zc (NB 1) C [] 12 PZ.nil;rw[decide_eq_true (A2l _ _ ZbN)]at f;have Y:=(A0f ⟨0,[],0,0,0,[],[],[],[]⟩).arg (ds:=[AJ [ex (.int .i64 0),nl,ex (.int .i64 0),ex (.int .i64 0),ex (.int .i64 0),DW [],Ip [],LG [],Gy []]]) (DsLe.cons (CH (DsLe.cons (D.le.refl _) (DsLe.cons Bf (DsLe.cons (D.le.refl _) (DsLe.cons (D.le.refl _) (DsLe.cons (D.le.refl _) (DsLe.cons (D.le.refl _) (DsLe.cons (D.le.refl _) (DsLe.cons (D.le.refl _) (DsLe.cons (D.le.refl _) DsLe.nil)))))))))) DsLe.nil);rw[show A2k ⟨0,[],0,0,0,[],[],[],[]⟩=true from rfl]at Y;obtain⟨K,B⟩:∃K,K=NB 1:=⟨_,rfl⟩;rw[<-B]at m f ⊢;rw[show El exF.c=[ex (.int .i64 1),Jh [],ex (.int .i64 0),ex (.int .i64 0),ex (.int .i64 0),DW [],Ip [],LG [],Gy []]from rfl];clear B C;refine Ab Tryz.func79 λA=>?_;rw[Tryz.ntmps79];exact Zfi
theorem A25:Xc ⟨exF.e.n,[],exF.e.g,exF.e.o,exF.e.c,exF.e.q,exF.e.s,exF.e.r,exF.e.a,exF.e.sq,exF.e.x,exF.e.b⟩=true:=by
 have A:NoU exF.e.r.q:=rfl;have B:NoR exF.e.r:=λ_ _=>rfl;have L:JK exF.e.r.l no8=true:=by decide
 simp only[Xc,decide_eq_true A,decide_eq_true B,L];rfl
theorem A7r:Abs Tryz.prog 86 [AJ (Fa exF)] (ex (.bool true)):=by
 have m:=A7p;have C:NV (NB 1):=⟨MR.1,MR.2.1⟩;have i:=A42 (NB 1) exF.c exF.e C YW.e
 rw[show A5F (NB 1) exF.e=true from by
  have G:A2Z (NB 1).n exF.e.cof:=λp G=>by
   rw[List.mem_singleton.1 G];exact A2l _ _ ZbN
  simp only[A5F,decide_eq_true G];rfl]at i
 have j:=(Xb ⟨exF.e.n,[],exF.e.g,exF.e.o,exF.e.c,exF.e.q,exF.e.s,exF.e.r,exF.e.a,exF.e.sq,exF.e.x,exF.e.b⟩).arg (ds:=[AJ ([ex (.int .i64 exF.e.n),nl,Ip exF.e.g,DW exF.e.o,Wc exF.e.c,Wc exF.e.q,Wc exF.e.s]++(SI exF.e.r++[A00 exF.e.a,ZA exF.e.sq,A3t exF.e.x,Gy exF.e.b]))]) (DsLe.cons (CH (by repeat (first | exact DsLe.nil | refine DsLe.cons (D.le.refl _) ?_ | refine DsLe.cons Bf ?_))) DsLe.nil);rw[A25]at j;rw[show(Fa exF)=Fa ⟨NB 1,exF.c,exF.e⟩from rfl];obtain⟨K,B⟩:∃K,K=NB 1:=⟨_,rfl⟩;obtain⟨e,X⟩:∃e,e=exF.e:=⟨_,rfl⟩;rw[<-B]at m i ⊢;rw[<-X]at i j ⊢;rw[show exF.c=⟨1,[],0,0,0,[],[],[],[]⟩from rfl]at m i ⊢;clear B X C;refine Ab Tryz.func86 λA=>?_;rw[Tryz.ntmps86];refine Go ?_;refine A4w (τ:=⟨[(1,.ptr 0 0),(3,.ptr 1 0),(4,.d (ex (.int .i64 ((K.e.length:Nat):Int))))],[.var 150 ((Fa ⟨K,⟨1,[],0,0,0,[],[],[],[]⟩,e⟩).map .d),.var 46 ((Ek e).map .d)]⟩) ZbM [[],[(12,0)],[],[(14,2)],[(15,3)],[(16,4)],[(17,5)],[(18,6)],[],[(3,8),(13,1)],[(19,7)]] [.av (.ptr 0 12),.av (.d (AJ (Ek e))),.av (.ptr 0 0),.av (.ptr 0 0),.av (.ptr 0 0),.av (.ptr 0 1),.av (.d (Ip K.e)),.av (.d (ex (.int .i64 ((K.e.length:Nat):Int)))),.newS 46 9 (Ek e),.st 8,.av (.d (ex (.int .i64 ((K.e.length:Nat):Int))))] ZbM ?_ ?_ ?_
 .refine HYSteps.cons (.q rfl (Bt rfl (Aa rfl) rfl (Aa rfl) rfl rfl)) ?_;refine HYSteps.cons (.q rfl (Nf rfl rfl (Aa rfl) rfl rfl)) ?_;refine Zgr ?_;refine Zgr ?_;refine HYSteps.cons (.q rfl (GW rfl rfl (Aa rfl) rfl rfl)) ?_;refine HYSteps.cons (.q rfl (Bi rfl (Aa rfl))) ?_;refine HYSteps.cons (.n rfl (Aa rfl) rfl rfl rfl rfl rfl) ?_;refine HYSteps.cons (.s rfl rfl rfl ZbN rfl rfl (Aa rfl)) ?_;refine HYSteps.cons (.q rfl (Dm rfl)) ?_;exact HYSteps.nil
 .exact Ad ZcW Zcs
 exact Zfi
theorem A7q:Abs Tryz.prog 36 [AJ (Fm exF.k),AJ (El exF.c),AJ (Ek exF.e)] (ex (.bool true)):=by
 have m:=A7r;obtain⟨F,hF⟩:∃F,F=exF:=⟨_,rfl⟩;rw[<-hF]at m ⊢;clear hF;refine Ab Tryz.func36 λA=>?_;rw[Tryz.ntmps36];exact Zfi
theorem exE:Abs Tryz.prog 14 [AJ (Fa exF)] (FR 5 (FO exF)):=by
 have m:=A7q;have c:=A3Q exF YW.fw [] (by rw[PY];decide);obtain⟨f,p⟩:∃f,f=exF:=⟨_,rfl⟩;rw[<-p]at m c ⊢;clear p;refine Ab Tryz.func14 λA=>?_;rw[Tryz.ntmps14];apply Y1;refine Bx ?_;refine Wa<|Y0<|Ao<|Y1 ?_;refine Wq AF ?_;refine Wq Bd ?_;refine Wq AF ?_;refine Wq Bd ?_;refine Wq AF ?_;refine Wq Bd ?_;refine Wq (Bs (m)) ?_;refine Wq JU ?_;refine Y0<|Cf<|Ys<|Y1 ?_;refine Al ?_;refine Y0<|Y1 ?_;refine Wq Bd ?_
 refine Zgz ?_;rintro _ _ ⟨rfl,rfl⟩;refine Kr ?_;exact Zfi
theorem A7s:Abs Tryz.prog 11 [FR 5 (FO exF)] (EY [AJ (Fa exF),ex (.int .i64 0)]):=by
 have h := QK (fun _ => FO exF) (fun _ => Tf _) 5 (FO exF) (by refine ⟨Tf _, ?_⟩; rw [PY]; decide) (by rw [PY]; decide) (fun f m h => by
  rw[A24]at h;cases h;exact exE)
 have e:Oc (λ_=>FO exF) (FO exF)=some exF:=by unfold Oc;rw[A24];exact if_pos rfl
 have e:Re (λ_=>FO exF) (FO exF)=EY [AJ (Fa exF),ex (.int .i64 0)]:=by simp[Re,A28,A29,e]
 rwa [e]at h
theorem exK:Abs Tryz.prog 20 [AJ (Fm (NB 1))] (Zx [2,1,1,2,0,0,0,1,2,0,0,0,1,1,0,0,0,0,0,0,0,0]):=by
 have h:=A4p (NB 1) (YQ 1 ZbN ZbN) (by rw[A6N];decide);rwa [show A3L (NB 1)=FP (NB 1)from if_pos MR,A6N]at h
theorem exV:Abs Tryz.prog 32 [AJ (Fm (NB 2))] (ex (.bool false)):=by
 have h:=Sh (NB 2) (YQ 2 ZbN ZbN);rwa [decide_eq_false A5l]at h
theorem exA:Abs Tryz.prog 21 [AJ [ex (.int .i64 4),nl,nl]] (Zx [8,0,0]):=by
 have h := A4s 4 [] [] (by unfold IW; omega) (fun _ h => by cases h) (fun _ h => by cases h) (by
  have:A0g 4 [] []=[8,0,0]:=Ziw
  rw[this];decide)
 rw[show A0g 4 [] []=[8,0,0]by decide +kernel]at h;exact h.arg (DsLe.cons (CH (DsLe.cons (D.le.refl _) (DsLe.cons Bf (DsLe.cons Bf DsLe.nil)))) DsLe.nil)
theorem exS:Abs Tryz.prog 13 [AJ (Fa exF),AJ (Fa exF)] (ex (.bool true)):=by
 have h:=A0K exF exF YW.fw YW.fw (by rw[PY];decide) (by rw[PY];decide);rwa [decide_eq_true rfl]at h
theorem exN:Abs Tryz.prog 27 [AJ (Fm (NB 1)),AJ [ex (.int .i64 5),nl,nl],AJ (zC 6 4 3 1)] (ex (.bool true)):=by
 refine Ab Tryz.func27 λA=>?_;rw[Tryz.ntmps27];exact Zfi
theorem A5v(kind z n Y d S r b:Int):Abs Tryz.prog 29 [AJ (zC kind n d r),AJ (zC z Y S b)] (ex (.bool ((Ug (decide (CB [] []=0)) kind z n Y d S r b [] []||rgP kind (QT 1073741824 kind n d) (QT 1073741824 z Y S) (Wd 1073741824 kind n r 0) (Wd 1073741824 z Y b 0)||(kind==2&&((QT 1073741824 z Y S).1==0&&(QT 1073741824 z Y S).2==0)))||(Ug (decide (CB [] []=0)) z kind Y n S d b r [] []||rgP z (QT 1073741824 z Y S) (QT 1073741824 kind n d) (Wd 1073741824 z Y b 0) (Wd 1073741824 kind n r 0)||(z==2&&((QT 1073741824 kind n d).1==0&&(QT 1073741824 kind n d).2==0)))))):=by
 have A:=RX kind z [] [] n Y d S r b [] [] [] [] [] [] [] [] (λ_ h=>by cases h) (λ_ h=>by cases h) ZbN ZbN ZbN ZbN ZbN ZbN _ _ _ _ rfl rfl rfl rfl;have B:=RX z kind [] [] Y n S d b r [] [] [] [] [] [] [] [] (λ_ h=>by cases h) (λ_ h=>by cases h) ZbN ZbN ZbN ZbN ZbN ZbN _ _ _ _ rfl rfl rfl rfl;exact(A0L A B).arg (DsLe.cons (A0W _ _ _ _) (DsLe.cons (A0W _ _ _ _) DsLe.nil))
theorem A7w:Abs Tryz.prog 29 [AJ (zC 12 2 0 0),AJ (zC 13 3 0 0)] (ex (.bool true)):=A5v 12 13 2 3 0 0 0 0
theorem A7v:Abs Tryz.prog 29 [AJ (zC 12 2 0 0),AJ (zC 13 2 0 0)] (ex (.bool false)):=A5v 12 13 2 2 0 0 0 0
theorem A7u:Abs Tryz.prog 29 [AJ (zC 5 1 1 0),AJ (zC 6 4 3 1)] (ex (.bool true)):=A5v 5 6 1 4 1 3 0 1
theorem Ti:Abs Tryz.prog 10 [] (ex (.bool true)):=by
 have Z:=UM 1 ZbN ZbN;have i:=UM 2 ZbN ZbN;refine Ab Tryz.func10 λA=>?_;rw[Tryz.ntmps10];have O:=exB;have C:=A7t;refine Go ?_;refine Wq (GB (l:=[2,1,1,2,0,0,0,1,2,0,0,0,1,1,0,0,0,0,0,0,0,0]) rfl (Aa rfl) (Aa rfl) (Aa rfl)) ?_;refine Wa<|Y0<|Y1 ?_;refine Wq (Bs (Z)) ?_;(refine CU rfl rfl ?_;(refine AT (Aa rfl) rfl rfl rfl ?_;(repeat ((first | refine⟨_,AA (ao rfl),?_⟩ | refine⟨_,Po rfl,?_⟩);refine⟨_,rfl,?_⟩));refine⟨_,rfl,?_⟩));refine TT (Aa rfl) (Aa rfl) rfl rfl rfl rfl rfl ?_
 refine AW (σ':=⟨[(0,.d (ex (.bool false))),(1,.ptr 0 0),(2,.ptr 1 0),(3,.d (ex (.int .i64 2))),(4,.d (ex (.int .i64 (-1)))),(6,.d (ex (.int .i64 3))),(7,.d (Zx [2,1,1,2,0,0,0,1,2,0,0,0,1,1,0,0,0,0,0,0,0,0])),(25,.d (AJ (Fm (NB 1)))),(26,.d (AJ (zC 1 0 0 0))),(27,.d (BQ []))],[.var 34 ((zC 6 4 3 1).map .d),.var 34 ((zC 12 2 0 0).map .d)]⟩) ?wk ?_
 case wk=>exact Ad (by exact Yd<|Yp<|Yp<|Yd<|Yd<|Yd<|Yd<|Yd<|Yd<|FrLe.cons rfl (KF rfl (D.le.refl _))<|FrLe.nil) Zcs
 (refine CU rfl rfl ?_;(refine Dj (Aa rfl) (Aa rfl) rfl rfl rfl rfl rfl ?_;(repeat ((first | refine⟨_,AA (ao rfl),?_⟩ | refine⟨_,Po rfl,?_⟩);refine⟨_,rfl,?_⟩));refine⟨_,rfl,?_⟩));(refine CU rfl rfl ?_;(refine AT (Aa rfl) rfl rfl rfl ?_;(repeat ((first | refine⟨_,AA (ao rfl),?_⟩ | refine⟨_,Po rfl,?_⟩);refine⟨_,rfl,?_⟩));refine⟨_,rfl,?_⟩));(refine CU rfl rfl ?_;(refine AT (Aa rfl) rfl rfl rfl ?_;(repeat ((first | refine⟨_,AA (ao rfl),?_⟩ | refine⟨_,Po rfl,?_⟩);refine⟨_,rfl,?_⟩));refine⟨_,rfl,?_⟩));refine Al ?_;refine Sf ?_;refine Y0<|Y1 ?_;refine Wq Bd ?_
 refine AW (σ':=⟨[(0,.d (ex (.bool false))),(1,.ptr 0 0),(2,.ptr 1 0),(3,.d (ex (.int .i64 2))),(4,.d (ex (.int .i64 (-1)))),(6,.d (ex (.int .i64 3))),(7,.d (Zx [2,1,1,2,0,0,0,1,2,0,0,0,1,1,0,0,0,0,0,0,0,0])),(8,.ptr 2 0),(32,.d (AJ (Fa exF)))],[.var 34 ((zC 6 4 3 1).map .d),.var 34 ((zC 12 2 0 0).map .d),.var 48 ((Fa exF).map .d)]⟩) ?wk2 ?_
 case wk2=>exact Ad (by exact FrLe.cons rfl (AVle.d rfl) (FrLe.cons rfl (AVle.ptr rfl) (FrLe.cons rfl (AVle.ptr rfl) (FrLe.cons rfl (AVle.d rfl) (FrLe.cons rfl (AVle.d rfl) (FrLe.cons rfl (AVle.d rfl) (FrLe.cons rfl (AVle.d rfl) (FrLe.cons rfl (AVle.ptr rfl) (FrLe.cons rfl (AVle.le (CH (by repeat (first | exact DsLe.nil | refine DsLe.cons Bf ?_ | refine DsLe.cons (D.le.refl _) ?_)))) FrLe.nil))))))))) (by exact HpLe.cons (OwLe.varD rfl) (HpLe.cons (OwLe.varD rfl) (HpLe.cons (OwLe.cells (by repeat (first | exact CellsLe.nil | refine CellsLe.cons (AVle.le Bf) ?_ | refine CellsLe.cons (AVle.d rfl) ?_))) HpLe.nil)))
 have j:=exE;have g:=A7s;have V:=exS;obtain⟨F,hF⟩:∃F,F=exF:=⟨_,rfl⟩;rw[<-hF]at j g V ⊢;obtain⟨E,S⟩:∃E,E=FO F:=⟨_,rfl⟩;rw[<-S]at j g;clear hF S;refine Go ?_;refine Dy 37 ?_;have f:=exK;refine Cw ?_;refine⟨_,HStep.q rfl (Sm (b:=[2,1,1,2,0,0,0,1,2,0,0,0,1,1,0,0,0,0,0,0,0,0]) (c:=[2,1,1,2,0,0,0,1,2,0,0,0,1,1,0,0,0,0,0,0,0,0]) rfl rfl ZbN ZbN rfl),?_⟩;have B:=exA;refine Cw ?_;refine⟨_,AK rfl rfl (GB (l:=[8,0,0]) rfl (Aa rfl) (Aa rfl) (Aa rfl)),?_⟩;refine⟨_,rfl,?_⟩;refine⟨_,AK rfl rfl (Sm (b:=[8,0,0]) (c:=[8,0,0]) rfl rfl ZbN ZbN rfl),?_⟩;have G:=exV;refine Zfn ?_;refine Dy 20 ?_;have y:=A7w;have b:=A7v;have c:=A7u;have d:=exN;exact Zgj
end
end Go.Proofs.YtcikkglcoeedlaaGreat
