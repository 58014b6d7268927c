/- Part 33 of the proof of claimClashes_holds. No condition. -/
import Derived.Test.YtcikkglcoeedlaaGreatCx19
import Derived.Test.YtcikkglcoeedlaaGreatCx20
import Derived.Test.YtcikkglcoeedlaaGreatCx27
import Derived.Test.YtcikkglcoeedlaaGreatCx30
import Derived.Test.YtcikkglcoeedlaaGreatCx31
import Derived.Test.YtcikkglcoeedlaaGreatCx32
set_option linter.unusedSimpArgs false
set_option linter.unusedVariables false
set_option maxRecDepth 100000
set_option maxHeartbeats 2000000
namespace Go.Proofs.YtcikkglcoeedlaaGreat
variable{j:Type}{um:j->Prop}
section
open Go.RowKit
def OS(c:Int):List Tm:=[⟨(c:Rat),Ht 0⟩]
def MV(c:Int):Cor:=⟨1,rQ [OS c],[]⟩
theorem Ny(i:Nat):0<=Ht 0 i/\Ht 0 i<=65535:=by
 simp only[Ht,On];split<;>omega
theorem TY(c:Int)(g:0<c)(u:c<=100):Abs Tryz.prog 40 [ex (.int .i64 c)] (AL (FI (MV c))):=by
 have G:((c:Int):Rat)≠0:=λe=>by
  have:c=0:=by exact_mod_cast e
  omega
 have B:=A1x 0 ZbA;have C:=FY c Zbx Zbx
 have v := PI ((c : Int) : Rat) (fun _ => 0) [⟨1, Ht 0⟩] 1 1 G (Ix (x := c) Zbx Zbx) (fun i K => by simp) (fun t M => by
  rw[List.mem_singleton.1 M];exact(Ix (x:=1) ZbA ZbA:RSz ((1:Int):Rat) 1)) (λt M=>by
  rw[List.mem_singleton.1 M];intro i K;exact Ny i) (λt M=>by
  rw[List.mem_singleton.1 M];intro i K;show 0<=0+Ht 0 i/\0+Ht 0 i<=65535;rw[Int.zero_add];exact Ny i) ZbA ZbA
 have e:Vc ((c:Int):Rat) (λ_=>0) [⟨1,Ht 0⟩]=OS c:=by
  simp[Vc,OS];funext i;simp[Cs]
 rw[e]at v;refine Ab Tryz.func40 λA=>?_;rw[Tryz.ntmps40];refine Go ?_;exact Aq (Ak (ResV.cell rfl rfl (Aa rfl) rfl rfl rfl) (Cz (DsLe.cons (D.le.refl _) (DsLe.cons (Af (by rw[show HU (MV c).e=KA [OS c]from(XB _).symm];rfl)) (DsLe.cons Bd DsLe.nil)))))
theorem Xa(c:Int)(G:c≠0)(m:Nat->Int):Canon [⟨(c:Rat),m⟩]:=LO (t:=⟨(c:Rat),m⟩) (λe=>G (by
 have:((c:Int):Rat)=0:=e
 exact_mod_cast this))
theorem A4n(c:Int)(G:c≠0):Canon (OS c):=Xa c G _
theorem A5K(c:Int):PIn (OS c) 0 65535:=λt M=>by
 rw[OS,List.mem_singleton]at M;subst M;intro i _;exact Ny i
theorem A5L(c:Int)(G:c≠0)(n d:Int)(h:1<=n)(W:1<=d):BdP n d ((OS c).map Em):=by
 refine⟨A0a (A4n c G) (A5K c),?_,?_⟩
 .rw [NX]
  have u:RJ (OS c)=1:=by
   show(0 ||| suppTo (Ht 0) 8)=1;exact Zhn
  rw[u];exact Nat.one_lt_two_pow Zbx
 .rw [NX]
  have u:Mo (OS c)=1:=by rfl
  omega
theorem A2O:CC (Ki (OS 1)) (OS 1)=0:=Zhn
theorem A2N:¬CC (Ki (OS 2)) (OS 2)=0:=Zhn
theorem A0j(n p:Int):Lu n p []:=⟨by decide,λi K=>absurd K ZbK⟩
theorem Ml:PX (MV 1):=by
 refine⟨by decide,by decide,⟨by decide,λi K=>?_⟩,A0j _ _⟩;have B:i<1:=K;obtain rfl:i=0:=by omega
 refine⟨⟨A5L 1 ZbA _ _ ZbA ZbA,?_,?_⟩,λh=>absurd h Zbx⟩
 .show (0:Int)<=Mo (Km ((OS 1).map Em))
  rw[NX];exact Zhn
 .show CC (Ki (Km ((OS 1).map Em))) (Km ((OS 1).map Em))=0
  rw[NX];exact A2O
theorem A4o:¬PX (MV 2):=λh=>by
 have u:=(h.2.2.1.2 0 ZbA).1.2.2;apply A2N;have A:CC (Ki (Km ((OS 2).map Em))) (Km ((OS 2).map Em))=0:=u;rw[NX]at A;exact A
def exF:Fct:=⟨MV 1,⟨1,[],0,0,0,[],[],[],[]⟩,⟨0,[[]],[],[],[],[],[],⟨λ_=>0,[],λ_=>[]⟩,[],[],[],[]⟩⟩
theorem A1p (n d : Int) (W : 0 ≤ d) : BdP n d [] := ⟨fun k B => absurd B ZbK, by
 show(0:Nat)<2^n.toNat;exact Nat.pos_of_ne_zero ZbK,by
 have h:Mo (Km [])<=0:=Zhn
 omega⟩
theorem A5M:FA (MV 1)=[2,1,1,2,0,0,0,1,2,0,0,0,1,1,0,0,0,0,0,0,0,0]:=Zhn
theorem Pg:(Fz exF).length=60:=Zhn
theorem LZ.nil:LZ um []:=⟨λ_ h=>(by cases h),Nat.zero_le _⟩
theorem LZ.one{x:j}(h:um x):LZ um [x]:=⟨λy N=>by rw[List.mem_singleton.1 N];exact h,by simp⟩
theorem PZ.nil:PZ []:=⟨λ_ h=>(by cases h),Nat.zero_le _⟩
theorem iw0:IW 0:=by unfold IW;omega
theorem A3H(c:Int)(g:0<c)(u:c<=100):PZ ((OS c).map Em):=by
 refine⟨λt M=>?_,by simp[OS]⟩;have e:t=Em ⟨(c:Rat),Ht 0⟩:=by simpa[OS]using M
 have b:=(Ix (x:=c) Zbx Zbx:RSz ((c:Int):Rat) 1);subst e;exact⟨⟨BK _,Nat.le_trans b.1 ZbA⟩,⟨BK _,Nat.le_trans b.2 ZbA⟩⟩
theorem XL(c:Int)(g:0<c)(u:c<=100):CZ (MV c):=⟨by show IW 1;unfold IW;omega,.one (A3H c g u),.nil⟩
theorem XR:FZ exF:=⟨XL 1 ZbA ZbA,⟨by show IW 1;unfold IW;omega,.nil,iw0,iw0,iw0,.nil,.nil,.nil,.nil⟩,⟨iw0,.one .nil,.nil,.nil,.nil,.nil,.nil,⟨λ_ _=>iw0,.nil,λ_ _=>.nil⟩,.nil,.nil,.nil,.nil⟩⟩
theorem LB.nil:LB um []:=⟨λ_ h=>(by cases h),by simp⟩
theorem LB.one{x:j}(h:um x):LB um [x]:=⟨λy N=>by rw[List.mem_singleton.1 N];exact h,by simp⟩
theorem ib0:IB 0:=by unfold IB;omega
theorem A5S : FB exF := ⟨⟨by unfold IB; decide, .one (.one (by
 have u:=A3H 1 ZbA ZbA;have M:=u.t (Em ⟨((1:Int):Rat),Ht 0⟩) (by simp[OS]);exact⟨M.n.sm,M.d.sm,λi _=>Ny i,λi K=>by show Ht 0 i=0;simp only[Ht,On];rw[if_neg Zbx]⟩)),.nil⟩,⟨by unfold IB;decide,.nil,ib0,ib0,ib0,.nil,.nil,.nil,.nil⟩,⟨ib0,.one .nil,.nil,.nil,.nil,.nil,.nil,⟨⟨λ_ _=>ib0,λ_ _=>rfl⟩,.nil,⟨λ_ _=>.nil,λ_ _=>rfl⟩⟩,.nil,.nil,.nil,.nil⟩⟩
theorem A18:Pc G0 (Fz exF)=some (exF,[]):=by
 have h:=A4v (G:=G0) A5G exF A5S [];rwa [List.append_nil]at h
open Classical
theorem Abs.arg{P:Program}{f:FuncId}{ds a:List D}{r:D}(h:Abs P f a r)(L:DsLe ds a):Abs P f ds r:=
 ⟨h.1,λs F T x o=>h.2 s F T (x.trans L.get.1) λk B=>(L.get.2 k (by rw[L.get.1];exact B)) s _ (o k (by rw[L.get.1];exact B))⟩
abbrev nl:D:=ex (.slice none 0 0)
abbrev zC(kind n d r:Int):List D:=[ex (.int .i64 kind),nl,ex (.int .i64 n),ex (.int .i64 d),ex (.int .i64 r),nl,nl,nl,nl]
theorem A5p(kind n d r:Int):DsLe (zC kind n d r) (IV kind [] n d r [] [] [] []):=by
 repeat (first | exact DsLe.nil | refine DsLe.cons (D.le.refl _) ?_ | refine DsLe.cons Bd ?_)
theorem A06(kind n d r:Int):D.le (AL (zC kind n d r)) (AL (IV kind [] n d r [] [] [] [])):=Cz (A5p kind n d r)
section
variable {P:Program} {hp:List Ow} {arg:Operand->AV} {dd:Option Tmp} {ty:TypeId} {ps:String} {af:Array Edge} {gd:Option (Nat×Bool)}
theorem Rx{T U:TypeId}{x y:Operand}{b c:List Nat}(C:arg x=.d (Yy b))(N:arg y=.d (Yy c))(E:∀z∈b,z<256)(G:∀z∈c,z<256)(h:b=c):Quiet P hp ⟨dd,.binOp .neq T x y U,ty,ps,af,gd⟩ arg (.d (ex (.bool false))):=by
 have:=UM (P:=P) (hp:=hp) (dd:=dd) (ty:=ty) (ps:=ps) (af:=af) (gd:=gd) (T:=T) (U:=U) C N E G;rwa [decide_eq_true h]at this
end
theorem exB:Abs Tryz.prog 25 [AL [ex (.int .i64 8),nl,nl],AL (zC 13 2 0 0)] (EX [ex (.int .i64 2),ex (.int .i64 (-1))]):=
 (KM 8 nl [] ⟨13,([]:List Tm).map Em,2,0,0,[],[],[],[]⟩ ZbA).arg (DsLe.cons (Cz (DsLe.cons (D.le.refl _) (DsLe.cons (D.le.refl _) (DsLe.cons Bd DsLe.nil)))) (DsLe.cons (by rw[KI];exact A06 _ _ _ _) DsLe.nil))
theorem A6s:Abs Tryz.prog 11 [nl] (EX [AL (EN Mn),ex (.int .i64 3)]):=by
 have g:Pc G0 []=none:=rfl;have h:=PV (λ_=>[]) (λ_=>.nil) 5 [] (by refine⟨?_,?_⟩<;>simp) ZbA (λf m h=>by rw[g]at h;cases h);have e:Nw (λ_=>[]) []=none:=by unfold Nw;rw[g]
 have e:Qn (λ_=>[]) []=EX [AL (EN Mn),ex (.int .i64 3)]:=by simp[Qn,A1b,A1c,e]
 rw[e]at h;exact h.arg (DsLe.cons Bd DsLe.nil)
theorem A6o:Abs Tryz.prog 79 [AL (FI (MV 1)++Ef exF.c)] (ex (.bool true)):=by
 have p:=Qy (MV 1) (XL 1 ZbA ZbA);rw[decide_eq_true Ml]at p;have B:NV (MV 1):=⟨Ml.1,Ml.2.1⟩;have P:=XZ (MV 1) B [] 12 PZ.nil;rw[decide_eq_true (A1p _ _ ZbA)]at P;have w:=(Zs ⟨0,[],0,0,0,[],[],[],[]⟩).arg (ds:=[AL [ex (.int .i64 0),nl,ex (.int .i64 0),ex (.int .i64 0),ex (.int .i64 0),EZ [],HU [],Kh [],Gf []]]) (DsLe.cons (Cz (DsLe.cons (D.le.refl _) (DsLe.cons Bd (DsLe.cons (D.le.refl _) (DsLe.cons (D.le.refl _) (DsLe.cons (D.le.refl _) (DsLe.cons (D.le.refl _) (DsLe.cons (D.le.refl _) (DsLe.cons (D.le.refl _) (DsLe.cons (D.le.refl _) DsLe.nil)))))))))) DsLe.nil);rw[show A1o ⟨0,[],0,0,0,[],[],[],[]⟩=true from rfl]at w;obtain⟨K,u⟩:∃K,K=MV 1:=⟨_,rfl⟩;rw[<-u]at p P ⊢;rw[show Ef exF.c=[ex (.int .i64 1),IU [],ex (.int .i64 0),ex (.int .i64 0),ex (.int .i64 0),EZ [],HU [],Kh [],Gf []]from rfl];clear u B;refine Ab Tryz.func79 λA=>?_;rw[Tryz.ntmps79];exact ZeE
theorem A19:VU ⟨exF.e.n,[],exF.e.g,exF.e.o,exF.e.c,exF.e.q,exF.e.s,exF.e.r,exF.e.a,exF.e.sq,exF.e.x,exF.e.b⟩=true:=by
 have u:NoU exF.e.r.q:=rfl;have A:NoR exF.e.r:=λ_ _=>rfl;have I:Na exF.e.r.l no8=true:=by decide
 simp only[VU,decide_eq_true u,decide_eq_true A,I];rfl
theorem A6q:Abs Tryz.prog 86 [AL (EN exF)] (ex (.bool true)):=by
 have u:=A6o;have B:NV (MV 1):=⟨Ml.1,Ml.2.1⟩;have E:=A35 (MV 1) exF.c exF.e B XR.e
 rw[show A4I (MV 1) exF.e=true from by
  have F:A1Z (MV 1).n exF.e.cof:=λp F=>by
   rw[List.mem_singleton.1 F];exact A1p _ _ ZbA
  simp only[A4I,decide_eq_true F];rfl]at E
 have Z:=(VT ⟨exF.e.n,[],exF.e.g,exF.e.o,exF.e.c,exF.e.q,exF.e.s,exF.e.r,exF.e.a,exF.e.sq,exF.e.x,exF.e.b⟩).arg (ds:=[AL ([ex (.int .i64 exF.e.n),nl,HU exF.e.g,EZ exF.e.o,Vd exF.e.c,Vd exF.e.q,Vd exF.e.s]++(RV exF.e.r++[Zd exF.e.a,YB exF.e.sq,A2v exF.e.x,Gf exF.e.b]))]) (DsLe.cons (Cz (by repeat (first | exact DsLe.nil | refine DsLe.cons (D.le.refl _) ?_ | refine DsLe.cons Bd ?_))) DsLe.nil);rw[A19]at Z;rw[show(EN exF)=EN ⟨MV 1,exF.c,exF.e⟩from rfl];obtain⟨K,C⟩:∃K,K=MV 1:=⟨_,rfl⟩;obtain⟨e,a⟩:∃e,e=exF.e:=⟨_,rfl⟩;rw[<-C]at u E ⊢;rw[<-a]at E Z ⊢;rw[show exF.c=⟨1,[],0,0,0,[],[],[],[]⟩from rfl]at u E ⊢;clear C a B;refine Ab Tryz.func86 λA=>?_;rw[Tryz.ntmps86];refine Go ?_;refine A3v (τ:=⟨[(1,.ptr 0 0),(3,.ptr 1 0),(4,.d (ex (.int .i64 ((K.e.length:Nat):Int))))],[.var 150 ((EN ⟨K,⟨1,[],0,0,0,[],[],[],[]⟩,e⟩).map .d),.var 46 ((Ea e).map .d)]⟩) Zbz [[],[(12,0)],[],[(14,2)],[(15,3)],[(16,4)],[(17,5)],[(18,6)],[],[(3,8),(13,1)],[(19,7)]] [.av (.ptr 0 12),.av (.d (AL (Ea e))),.av (.ptr 0 0),.av (.ptr 0 0),.av (.ptr 0 0),.av (.ptr 0 1),.av (.d (HU K.e)),.av (.d (ex (.int .i64 ((K.e.length:Nat):Int)))),.newS 46 9 (Ea e),.st 8,.av (.d (ex (.int .i64 ((K.e.length:Nat):Int))))] Zbz ?_ ?_ ?_
 .refine HYSteps.cons (.q rfl (Bo rfl (Aa rfl) rfl (Aa rfl) rfl rfl)) ?_;refine HYSteps.cons (.q rfl (Mx rfl rfl (Aa rfl) rfl rfl)) ?_;refine ZfA ?_;refine ZfA ?_;refine HYSteps.cons (.q rfl (GF rfl rfl (Aa rfl) rfl rfl)) ?_;refine HYSteps.cons (.q rfl (Bh rfl (Aa rfl))) ?_;refine HYSteps.cons (.n rfl (Aa rfl) rfl rfl rfl rfl rfl) ?_;refine HYSteps.cons (.s rfl rfl rfl ZbA rfl rfl (Aa rfl)) ?_;refine HYSteps.cons (.q rfl (Dh rfl)) ?_;exact HYSteps.nil
 .exact Ac Zcu Zcn
 exact ZeE
theorem A6p:Abs Tryz.prog 36 [AL (FI exF.k),AL (Ef exF.c),AL (Ea exF.e)] (ex (.bool true)):=by
 have p:=A6q;obtain⟨F,hF⟩:∃F,F=exF:=⟨_,rfl⟩;rw[<-hF]at p ⊢;clear hF;refine Ab Tryz.func36 λA=>?_;rw[Tryz.ntmps36];exact ZeE
theorem exE:Abs Tryz.prog 14 [AL (EN exF)] (FC 5 (Fz exF)):=by
 have u:=A6p;have h:=A2T exF XR.fw [] (by rw[Pg];decide);obtain⟨f,p⟩:∃f,f=exF:=⟨_,rfl⟩;rw[<-p]at u h ⊢;clear p;refine Ab Tryz.func14 λA=>?_;rw[Tryz.ntmps14];apply Y1;refine Bx ?_;refine Wa<|Y0<|Aj<|Y1 ?_;refine Wq AH ?_;refine Wq Bg ?_;refine Wq AH ?_;refine Wq Bg ?_;refine Wq AH ?_;refine Wq Bg ?_;refine Wq (BC (u)) ?_;refine Wq Jy ?_;refine Y0<|Cf<|Ys<|Y1 ?_;refine Al ?_;refine Y0<|Y1 ?_;refine Wq Bg ?_
 refine Ba (KS 1 0 5 1 rfl rfl ZbA Zbx rfl rfl rfl rfl) ?_;refine AF [1,2] [] [] (h) Zbs rfl rfl Zbu Zbt ZbA Zbr Zbw trivial rfl ?_;rintro _ _ ⟨rfl,rfl⟩;refine Kr ?_;exact ZeE
theorem A6r:Abs Tryz.prog 11 [FC 5 (Fz exF)] (EX [AL (EN exF),ex (.int .i64 0)]):=by
 have h := PV (fun _ => Fz exF) (fun _ => Sw _) 5 (Fz exF) (by refine ⟨Sw _, ?_⟩; rw [Pg]; decide) (by rw [Pg]; decide) (fun f m h => by
  rw[A18]at h;cases h;exact exE)
 have e:Nw (λ_=>Fz exF) (Fz exF)=some exF:=by unfold Nw;rw[A18];exact if_pos rfl
 have e:Qn (λ_=>Fz exF) (Fz exF)=EX [AL (EN exF),ex (.int .i64 0)]:=by simp[Qn,A1b,A1c,e]
 rwa [e]at h
theorem exK:Abs Tryz.prog 20 [AL (FI (MV 1))] (Yy [2,1,1,2,0,0,0,1,2,0,0,0,1,1,0,0,0,0,0,0,0,0]):=by
 have h:=A3o (MV 1) (XL 1 ZbA ZbA) (by rw[A5M];decide);rwa [show A2P (MV 1)=FA (MV 1)from if_pos Ml,A5M]at h
theorem exV:Abs Tryz.prog 32 [AL (FI (MV 2))] (ex (.bool false)):=by
 have h:=Rr (MV 2) (XL 2 ZbA ZbA);rwa [decide_eq_false A4o]at h
theorem exA:Abs Tryz.prog 21 [AL [ex (.int .i64 4),nl,nl]] (Yy [8,0,0]):=by
 have h := A3r 4 [] [] (by unfold IW; omega) (fun _ h => by cases h) (fun _ h => by cases h) (by
  have:Zt 4 [] []=[8,0,0]:=Zhn
  rw[this];decide)
 rw[show Zt 4 [] []=[8,0,0]by decide +kernel]at h;exact h.arg (DsLe.cons (Cz (DsLe.cons (D.le.refl _) (DsLe.cons Bd (DsLe.cons Bd DsLe.nil)))) DsLe.nil)
theorem exS:Abs Tryz.prog 13 [AL (EN exF),AL (EN exF)] (ex (.bool true)):=by
 have h:=ZT exF exF XR.fw XR.fw (by rw[Pg];decide) (by rw[Pg];decide);rwa [decide_eq_true rfl]at h
theorem exN:Abs Tryz.prog 27 [AL (FI (MV 1)),AL [ex (.int .i64 5),nl,nl],AL (zC 6 4 3 1)] (ex (.bool true)):=by
 refine Ab Tryz.func27 λA=>?_;rw[Tryz.ntmps27];exact ZeE
theorem A4y(kind Q n e d v r I:Int):Abs Tryz.prog 29 [AL (zC kind n d r),AL (zC Q e v I)] (ex (.bool ((LR (decide (CC [] []=0)) kind Q n e d v r I [] []||rgP kind (EA 1073741824 kind n d) (EA 1073741824 Q e v) (Gp 1073741824 kind n r 0) (Gp 1073741824 Q e I 0)||(kind==2&&((EA 1073741824 Q e v).1==0&&(EA 1073741824 Q e v).2==0)))||(LR (decide (CC [] []=0)) Q kind e n v d I r [] []||rgP Q (EA 1073741824 Q e v) (EA 1073741824 kind n d) (Gp 1073741824 Q e I 0) (Gp 1073741824 kind n r 0)||(Q==2&&((EA 1073741824 kind n d).1==0&&(EA 1073741824 kind n d).2==0)))))):=by
 have u:=Ik kind Q [] [] n e d v r I [] [] [] [] [] [] [] [] (λ_ h=>by cases h) (λ_ h=>by cases h) ZbA ZbA ZbA ZbA ZbA ZbA _ _ _ _ rfl rfl rfl rfl;have A:=Ik Q kind [] [] e n v d I r [] [] [] [] [] [] [] [] (λ_ h=>by cases h) (λ_ h=>by cases h) ZbA ZbA ZbA ZbA ZbA ZbA _ _ _ _ rfl rfl rfl rfl;exact(Ke u A).arg (DsLe.cons (A06 _ _ _ _) (DsLe.cons (A06 _ _ _ _) DsLe.nil))
theorem A6v:Abs Tryz.prog 29 [AL (zC 12 2 0 0),AL (zC 13 3 0 0)] (ex (.bool true)):=A4y 12 13 2 3 0 0 0 0
theorem A6u:Abs Tryz.prog 29 [AL (zC 12 2 0 0),AL (zC 13 2 0 0)] (ex (.bool false)):=A4y 12 13 2 2 0 0 0 0
theorem A6t:Abs Tryz.prog 29 [AL (zC 5 1 1 0),AL (zC 6 4 3 1)] (ex (.bool true)):=A4y 5 6 1 4 1 3 0 1
theorem Sy:Abs Tryz.prog 10 [] (ex (.bool true)):=by
 have x:=TY 1 ZbA ZbA;have U:=TY 2 ZbA ZbA;refine Ab Tryz.func10 λA=>?_;rw[Tryz.ntmps10];have I:=exB;have k:=A6s;refine Go ?_;refine Wq (Gi (l:=[2,1,1,2,0,0,0,1,2,0,0,0,1,1,0,0,0,0,0,0,0,0]) rfl (Aa rfl) (Aa rfl) (Aa rfl)) ?_;refine Wa<|Y0<|Y1 ?_;refine Wq (BC (x)) ?_;(refine CA rfl rfl ?_;(refine AP (Aa rfl) rfl rfl rfl ?_;(repeat ((first | refine⟨_,As (ao rfl),?_⟩ | refine⟨_,Po rfl,?_⟩);refine⟨_,rfl,?_⟩));refine⟨_,rfl,?_⟩));refine Tc (Aa rfl) (Aa rfl) rfl rfl rfl rfl rfl ?_
 refine Ba (σ':=⟨[(0,.d (ex (.bool false))),(1,.ptr 0 0),(2,.ptr 1 0),(3,.d (ex (.int .i64 2))),(4,.d (ex (.int .i64 (-1)))),(6,.d (ex (.int .i64 3))),(7,.d (Yy [2,1,1,2,0,0,0,1,2,0,0,0,1,1,0,0,0,0,0,0,0,0])),(25,.d (AL (FI (MV 1)))),(26,.d (AL (zC 1 0 0 0))),(27,.d (Cd []))],[.var 34 ((zC 6 4 3 1).map .d),.var 34 ((zC 12 2 0 0).map .d)]⟩) ?wk ?_
 case wk=>exact Ac (by exact Yd<|Yp<|Yp<|Yd<|Yd<|Yd<|Yd<|Yd<|Yd<|FrLe.cons rfl (MJ rfl (D.le.refl _))<|FrLe.nil) Zcn
 (refine CA rfl rfl ?_;(refine De (Aa rfl) (Aa rfl) rfl rfl rfl rfl rfl ?_;(repeat ((first | refine⟨_,As (ao rfl),?_⟩ | refine⟨_,Po rfl,?_⟩);refine⟨_,rfl,?_⟩));refine⟨_,rfl,?_⟩));(refine CA rfl rfl ?_;(refine AP (Aa rfl) rfl rfl rfl ?_;(repeat ((first | refine⟨_,As (ao rfl),?_⟩ | refine⟨_,Po rfl,?_⟩);refine⟨_,rfl,?_⟩));refine⟨_,rfl,?_⟩));(refine CA rfl rfl ?_;(refine AP (Aa rfl) rfl rfl rfl ?_;(repeat ((first | refine⟨_,As (ao rfl),?_⟩ | refine⟨_,Po rfl,?_⟩);refine⟨_,rfl,?_⟩));refine⟨_,rfl,?_⟩));refine Al ?_;refine Sf ?_;refine Y0<|Y1 ?_;refine Wq Bg ?_
 refine Ba (σ':=⟨[(0,.d (ex (.bool false))),(1,.ptr 0 0),(2,.ptr 1 0),(3,.d (ex (.int .i64 2))),(4,.d (ex (.int .i64 (-1)))),(6,.d (ex (.int .i64 3))),(7,.d (Yy [2,1,1,2,0,0,0,1,2,0,0,0,1,1,0,0,0,0,0,0,0,0])),(8,.ptr 2 0),(32,.d (AL (EN exF)))],[.var 34 ((zC 6 4 3 1).map .d),.var 34 ((zC 12 2 0 0).map .d),.var 48 ((EN exF).map .d)]⟩) ?wk2 ?_
 case wk2=>exact Ac (by exact FrLe.cons rfl (AVle.d rfl) (FrLe.cons rfl (AVle.ptr rfl) (FrLe.cons rfl (AVle.ptr rfl) (FrLe.cons rfl (AVle.d rfl) (FrLe.cons rfl (AVle.d rfl) (FrLe.cons rfl (AVle.d rfl) (FrLe.cons rfl (AVle.d rfl) (FrLe.cons rfl (AVle.ptr rfl) (FrLe.cons rfl (AVle.le (Cz (by repeat (first | exact DsLe.nil | refine DsLe.cons Bd ?_ | refine DsLe.cons (D.le.refl _) ?_)))) FrLe.nil))))))))) (by exact HpLe.cons (OwLe.varD rfl) (HpLe.cons (OwLe.varD rfl) (HpLe.cons (OwLe.cells (by repeat (first | exact CellsLe.nil | refine CellsLe.cons (AVle.le Bd) ?_ | refine CellsLe.cons (AVle.d rfl) ?_))) HpLe.nil)))
 have Z:=exE;have T:=A6r;have y:=exS;obtain⟨F,hF⟩:∃F,F=exF:=⟨_,rfl⟩;rw[<-hF]at Z T y ⊢;obtain⟨E,X⟩:∃E,E=Fz F:=⟨_,rfl⟩;rw[<-X]at Z T;clear hF X;refine Go ?_;refine Dy 37 ?_;have O:=exK;refine CY ?_;refine⟨_,HStep.q rfl (Rx (b:=[2,1,1,2,0,0,0,1,2,0,0,0,1,1,0,0,0,0,0,0,0,0]) (c:=[2,1,1,2,0,0,0,1,2,0,0,0,1,1,0,0,0,0,0,0,0,0]) rfl rfl ZbA ZbA rfl),?_⟩;have z:=exA;refine CY ?_;refine⟨_,AN rfl rfl (Gi (l:=[8,0,0]) rfl (Aa rfl) (Aa rfl) (Aa rfl)),?_⟩;refine⟨_,rfl,?_⟩;refine⟨_,AN rfl rfl (Rx (b:=[8,0,0]) (c:=[8,0,0]) rfl rfl ZbA ZbA rfl),?_⟩;have J:=exV;refine ZeO ?_;refine Dy 20 ?_;have d:=A6v;have L:=A6u;have M:=A6t;have N:=exN;exact ZfC
end
end Go.Proofs.YtcikkglcoeedlaaGreat
