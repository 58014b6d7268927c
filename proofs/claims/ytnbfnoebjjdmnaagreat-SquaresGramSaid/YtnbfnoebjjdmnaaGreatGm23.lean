/- Part 23 of the proof of squaresGram_holds. No condition. -/
import Derived.Test.YtnbfnoebjjdmnaaGreatGm18
import Derived.Test.YtnbfnoebjjdmnaaGreatGm19
import Derived.Test.YtnbfnoebjjdmnaaGreatGm22
set_option linter.unusedSimpArgs false
set_option linter.unusedVariables false
set_option maxRecDepth 100000
set_option maxHeartbeats 8000000
namespace Go.Proofs.YtnbfnoebjjdmnaaGreat
open Go.RowKit Go.Deep Go.ChangeShapes Go.WideShapes
theorem Yq:Opens Tryz.prog 24 λds=>∃T V,Mr8 V/\ds=[VG T V]:=
 (Opens.struct (Rs := [fun ds => ∃ T V, Mr8 V ∧ ds = [VG T V]]) Tryz.underlying24 (FieldsO.cons rfl ((Opens.slice (c := 1) Tryz.underlying22 (by kernel_rfl) (by omega) (Opens.int Tryz.underlying121) fun ds ⟨r, _, h⟩ => by rw [h]; rfl).mono fun ds ⟨T, rows, h1, h2⟩ => by
  obtain ⟨X,h3,h4⟩:=Uh (α:=Int) (p:=λz=>-128<=z/\z<=127) (f:=λz=>[ex (.int .i8 z)]) (rows:=rows) λr hr=>by
   obtain ⟨z,hz,e⟩:=h1 r hr
   exact ⟨z,bounds_i8 hz,e⟩
  exact ⟨T,X,h3,by rw [h2,h4];rfl⟩) (FieldsO.nil (by kernel_rfl)))).mono λds ⟨l,h1,h2⟩=>by
  match l,h1 with
  | [d],⟨⟨T,X,hX,hd⟩,_⟩=>exact ⟨T,X,hX,by rw [h2,hd];rfl⟩
section
variable {P:Program} {s0:An} {n:Nat} {Q:Exit->AS->Prop} {σ:AS}
end
theorem QV{m n b0:Nat}{b c:Nat->Nat}{M M':Nat->Nat->Rat}(h:∀i,i<m->∀j,j<n->M i j=M' i j):EM m (λ_=>n) b0 b c M=EM m (λ_=>n) b0 b c M':=by
 unfold EM
 congr 1
 exact List.map_congr_left λi hi=>by rw [Di (h i (List.mem_range.1 hi))]
theorem FW{ms:List (Nat->Int)}{i:Nat}(h:i<ms.length):JY ms i∈ms:=by
 rw [JY,List.getD_eq_getElem?_getD,List.getElem?_eq_getElem h]
 exact List.getElem_mem _
theorem Yu:((1:Int):Rat)≠0:=by decide
theorem XW{ms:List (Nat->Int)}(hm:∀m∈ms,In8 m 0 1){r:Nat->Rat}(hr:∀j,RSz (r j) 10):∀n,n<=ms.length->PB (A1D ms r n) n (12*n) 1
 | 0,_=>PB.nil
 | n+1,h=>by
  have h1:PB [⟨((1:Int):Rat),JY ms n⟩] 1 1 1:=GH Yu (Dj (by omega) (by omega)) (hm _ (FW (by omega)))
  exact ((XW hm hr n (by omega)).add (Jh h1 (hr n))).mono (by omega) (by omega) (by omega)
theorem OH{ms:List (Nat->Int)}(hm:∀m∈ms,sN m 8<=2)(row:Nat->Rat)(d:Rat):∀n,n<=ms.length->DegN (KX ms row d n) 2
 | 0,_=>DegN.nil
 | n+1,h=>by
  rw [KX]
  split
  .exact OH hm row d n (by omega)
  .refine (OH hm row d n (by omega)).add λt ht=>?_
   rw [List.mem_singleton.1 ht]
   exact hm _ (FW h)
theorem GB{ms:List (Nat->Int)}{M:Nat->Nat->Rat}{n:Nat}{p:Sq->Prop}(h:∀k,k<n->AJ M k k k≠0->p ⟨AJ M k k k,KX ms (AJ M k k) (AJ M k k k) n⟩):∀k,k<=n->∀s∈Do ms M n k,p s
 | 0,_,s,hs=>by cases hs
 | k+1,hk,s,hs=>by
  rw [Do] at hs
  split at hs
  .exact GB h k (by omega) s hs
  .rename_i h0
   rcases List.mem_append.1 hs with hs | hs
   .exact GB h k (by omega) s hs
   .rw [List.mem_singleton.1 hs]
    exact h k (by omega) h0
theorem VI:∀m∈Mc,sN m 8<=2:=λm hm=>by
 simp only [Mc,List.mem_cons,List.not_mem_nil,or_false] at hm
 rcases hm with rfl | rfl | rfl | rfl<;>decide
theorem A24(o k:Nat)(hk:k<=4):∀m∈oS o k,sN m 8<=2:=λm hm=>VI m (SD o k hk m hm)
theorem Pa{A B:Nat->Nat->Rat}{S T n:Nat}(hn:n<=4)(hA:∀i j,RSz (A i j) S)(hB:∀i j,RSz (B i j) T)(i j:Nat):∀k,k<=n->RSz (BS k λq=>A i q*B q j) (k*(S+T+1)+1)
 | 0,_=>by
  rw [Nat.zero_mul]
  exact (Dj (x:=0) (by decide) (by decide):RSz ((0:Int):Rat) 1)
 | k+1,h=>by
  have:=Pa hn hA hB i j k (by omega)
  rw [BS]
  refine (this.add ((hA i k).mul (hB k j))).mono ?_
  rw [Nat.succ_mul]
  omega
theorem Sx(m n:Nat)(b c:Nat->Nat):(CU m n b c).flatten=KV m (λ_=>n) b c:=by
 unfold CU KV
 induction m with
 | zero=>rfl
 | succ m ih=>rw [List.range_succ,List.map_append,List.map_append,List.flatten_append,ih];rfl
def Gw(A B:Nat->Nat->Rat)(n i k q j:Nat):Rat:=if j<k then BS n (λt=>A i t*B t j) else if j=k then BS q (λt=>A i t*B t j) else 0
theorem VB(A B:Nat->Nat->Rat)(n i:Nat):Gw A B n i 0 0=zR:=by
 funext j
 unfold Gw
 rw [if_neg (Nat.not_lt_zero j)]
 split<;>rfl
theorem OZ(A B:Nat->Nat->Rat)(n i k q:Nat):Gw A B n i k q k=BS q λt=>A i t*B t k:=by
 rw [Gw,if_neg (Nat.lt_irrefl k),if_pos rfl]
theorem VC(A B:Nat->Nat->Rat)(n i k q:Nat):DS (Gw A B n i k q) k (Gw A B n i k q k+A i q*B q k)=Gw A B n i k (q+1):=by
 funext j
 rw [OZ,DS]
 split
 .rename_i h
  rw [h,OZ]
  rfl
 .rename_i h
  unfold Gw
  rw [if_neg h,if_neg h]
theorem VD(A B:Nat->Nat->Rat)(n i k:Nat):Gw A B n i k n=Gw A B n i (k+1) 0:=by
 funext j
 unfold Gw
 by_cases h:j<k
 .rw [if_pos h,if_pos (by omega)]
 .rw [if_neg h]
  by_cases e:j=k
  .rw [if_pos e,if_pos (by omega)]
  .rw [if_neg e, if_neg (by omega)]
   split<;>rfl
theorem YC(A B:Nat->Nat->Rat)(n i j:Nat)(h:j<n):Gw A B n i n 0 j=Eb n A B i j:=by
 rw [Gw,if_pos h]
 rfl
theorem VE(A B:Nat->Nat->Rat)(n i:Nat):Bg (Gw A B n i n 0) n=Bg (Eb n A B i) n:=Di λj hj=>YC A B n i j hj
section
variable {P:Program} {s0:An} {n:Nat} {Q:Exit->AS->Prop} {fr:List (Nat×AV)} {hp:List Ow}
theorem Xl{c:Code}{T:Nat}{m:Nat}{b1 c1:Nat->Nat}{frf:Nat->Nat->List (Nat×AV)}{hpf:Nat->List Ow}(id:Nat)(hh:hp[id]? = some (.obj (JR T 1 (CU m m b1 c1))))(h0:0<m)(hf:∀g c,DW id (sX g m c) fr=some (frf g c))(hpl:PlainHp id hp)(hs:∀g,DI hp id (.obj (Bj [⟨g,T,KV m (λ_=>m) b1 c1⟩]))=some (hpf g))
  (h:∀g k,m<=k->k<=9223372036854775807->AWp P s0 n c Q ⟨frf g k,hpf g⟩):AWp P s0 n c Q ⟨fr,hp⟩:=by
 have hl:(CU m m b1 c1).length=m:=by simp [CU]
 refine UY id hh (by omega) (λg c=>by rw [hl];exact hf g c) hpl (λg=>by rw [Sx];exact hs g) λg k h1 h2=>h g k (by omega) h2
theorem UO{hp:List Ow}{arg:Operand->AV}{dd:Option Tmp}{ty:TypeId}{ps:String}{af:Array Edge}{gd:Option (Nat×Bool)}{T U:TypeId}{x y:Operand}{a b:Nat}(hx:arg x = .d (ex (.int .i64 (a:Nat))))(hy:arg y = .d (ex (.int .i64 (b:Nat))))(hb:b<=a)(ha:a<=100000):Quiet P hp ⟨dd,.binOp .sub T x y U,ty,ps,af,gd⟩ arg (.d (ex (.int .i64 ((a-b:Nat):Int)))):=by
 have:=A2A (P:=P) (hp:=hp) (dd:=dd) (T:=T) (U:=U) (ty:=ty) (ps:=ps) (af:=af) (gd:=gd) hx hy (by omega) (by omega)
 rwa [show (a:Int)-(b:Int)=((a-b:Nat):Int) by omega] at this
end
theorem Ub(n:Nat)(M:Nat->Nat->Rat)(hn:n<=1000):Abs Tryz.prog 62 [BY n n M] (ex (.int .i64 (n:Nat))):=by
 have:=Ze n n M hn
 rwa [show UJ n n=n by unfold UJ;split<;>omega] at this
theorem LA(n:Nat)(M:Nat->Nat->Rat)(hn:n<=1000):Abs Tryz.prog 28 [BY n n M] (ex (.bool true)):=by
 refine Ab Tryz.func28 λs0=>?_
 rw [Tryz.ntmps28]
 refine Y1<|Wa<|Y0<|Y1<|Wm ?_;refine Wq (Bi rfl (Ad rfl)) ?_;refine Wm ?_;refine Wq (Af (Ub n M hn)) ?_;refine Wq Ai ?_;refine Wa<|Y0<|At ?_
 exact Yf
theorem A0G(n S T:Nat)(A B:Nat->Nat->Rat)(hn0:0<n)(hn:n<=4)(hA:∀i j,RSz (A i j) S)(hB:∀i j,RSz (B i j) T)(hS:S<=10000000)(hT:T<=10000000) :
  Con Tryz.prog 65 [.d (BY n n A),.d (BY n n B)] [] [] (λr hp'=>∃b0 c0,∃b c:Nat->Nat,n<=c0/\c0<=9223372036854775807/\(∀i,i<n->n<=c i/\c i<=9223372036854775807)/\r = .d (CK [sX b0 n c0,ex (.int .i64 0)])/\hp'=[.dead,.obj (Bj (EM n (λ_=>n) b0 b c (Eb n A B))),.dead]):=by
 refine FL Tryz.func65 rfl (AG Tryz.func65 (by kernel_rfl) (by kernel_rfl)) rfl λs0=>?_
 rw [Tryz.ntmps65]
 refine Y1<|Wa<|Wa<|Y0<|Aa<|Y1<|Wm ?_;refine Wq (Bi rfl (Ad rfl)) ?_;refine Wq Ai ?_;refine Wm ?_;refine Wg Ae ?_;refine Wg (AR (k:=0) rfl (ao rfl) (Ad rfl) (Ad rfl) rfl hn0) ?_;refine Wg BG ?_;refine Wg (Bi rfl (Ad rfl)) ?_;refine Wg Ae ?_;refine Wg (Bi rfl (Ad rfl)) ?_;refine Wg Aj ?_;refine Wq AE ?_;refine Y0<|Cf<|Ys<|Y1 ?_;refine EA (Ad rfl) (Ad rfl) rfl rfl rfl rfl rfl ?_;refine Wa<|Y0<|Aa<|Y1<|Wa<|Y0<|AWp.block ?_
 refine AQ (λmz σ=>∃k,k<=n/\mz=n-k/\∃b c,(∀i,i<k->n<=c i/\c i<=9223372036854775807)/\σ=⟨[(0,.d (BY n n A)),(1,.d (BY n n B)),(6,.own 1),(7,.d (ex (.int .i64 (k:Nat))))],[.pin [],.obj (JR 62 1 (CU k n b c)),.obj (Bj (DC k n b (Eb n A B)))]⟩) ?le ⟨0,by omega,rfl,λ_=>0,λ_=>0,λi hi=>absurd hi (Nat.not_lt_zero i),rfl⟩ ?round
 case le=>
  refine FO (A06 1 rfl rfl) (FO (OE rfl) ?_)
  exact Ak (by exact Yd<|Yd<|FrLe.cons rfl (AVle.own rfl)<|Yd<|FrLe.nil) (by exact HpLe.cons (BA rfl)<|HpLe.cons (OwLe.obj rfl)<|HpLe.cons (OwLe.obj rfl)<|HpLe.nil)
 case round=>
  rintro mz _ ⟨k,hk,rfl,b,c,hbc,rfl⟩
  by_cases hlt:k<n
  .have hrl:(CU k n b c).length=k:=by simp [CU]
   refine Aa<|Y1<|Wm<|Wm ?_;refine Wq (Bi rfl (Ad rfl)) ?_;refine Wq Ai ?_;refine Y0<|Ct<|Ys<|Aa<|AWp.block<|Y1<|Wm ?_;refine Wq (Af (Ub n B (by omega))) ?_
   refine Kk [] [] (Gl n hn0 (by omega)) ?_
   rintro _ _ ⟨g,cg,hc1,hc2,rfl,rfl⟩
   refine Kr ?_
   refine Wa<|Y0<|Aa<|Y1<|Wa<|Y0<|AWp.block ?_
   refine AQ (λmz σ=>∃j,j<=n/\mz=n-j/\σ=⟨[(0,.d (BY n n A)),(1,.d (BY n n B)),(6,.own 1),(7,.d (ex (.int .i64 (k:Nat)))),(8,.d (sX g n cg)),(9,.d (ex (.int .i64 (j:Nat))))],[.pin [],.obj (JR 62 1 (CU k n b c)),.obj (Bj (DC k n b (Eb n A B))),.dead,.obj (Bj [⟨g,42,Bg (Gw A B n k j 0) n⟩])]⟩) ?lej ⟨0,by omega,rfl,rfl⟩ ?roundj
   case lej=>exact Ak (by exact Yd<|Yd<|FrLe.cons rfl (AVle.own rfl)<|Yd<|Yd<|Yd<|FrLe.nil) (by exact HpLe.cons (BA rfl)<|HpLe.cons (OwLe.obj rfl)<|HpLe.cons (OwLe.obj rfl)<|HpLe.cons (OwLe.dead)<|HpLe.cons (OwLe.obj (by rw [VB]))<|HpLe.nil)
   case roundj=>
    rintro mz _ ⟨j,hj,rfl,rfl⟩
    by_cases hltj:j<n
    .refine Aa<|Y1<|Wm<|Wm ?_;refine Wq (Fj (ao rfl) (Ad rfl)) ?_;refine Wq Ai ?_;refine Y0<|Ct<|Ys<|Aa<|AWp.block<|Y1<|Wa<|Y0<|AWp.block ?_
     refine AQ (λmz σ=>∃l,l<=n/\mz=n-l/\σ=⟨[(0,.d (BY n n A)),(1,.d (BY n n B)),(6,.own 1),(7,.d (ex (.int .i64 (k:Nat)))),(8,.d (sX g n cg)),(9,.d (ex (.int .i64 (j:Nat)))),(10,.d (ex (.int .i64 (l:Nat))))],[.pin [],.obj (JR 62 1 (CU k n b c)),.obj (Bj (DC k n b (Eb n A B))),.dead,.obj (Bj [⟨g,42,Bg (Gw A B n k j l) n⟩])]⟩) ?lel ⟨0,by omega,rfl,rfl⟩ ?roundl
     case lel=>exact Ak (by exact Yd<|Yd<|FrLe.cons rfl (AVle.own rfl)<|Yd<|Yd<|Yd<|Yd<|FrLe.nil) (by exact HpLe.cons (BA rfl)<|HpLe.cons (OwLe.obj rfl)<|HpLe.cons (OwLe.obj rfl)<|HpLe.cons (OwLe.dead)<|HpLe.cons (OwLe.obj rfl)<|HpLe.nil)
     case roundl=>
      rintro mz _ ⟨l,hl,rfl,rfl⟩
      by_cases hltl:l<n
      .have hz:RSz (Gw A B n k j l j) (l*(S+T+1)+1):=by rw [OZ]; exact Pa hn hA hB k j l (by omega)
       have hle:l*(S+T+1)<=4*20000001:=Nat.mul_le_mul (by omega) (by omega)
       refine Aa<|Y1<|Wm<|Wm ?_;refine Wq (Bi rfl (Ad rfl)) ?_;refine Wq Ai ?_;refine Y0<|Ct<|Ys<|Aa<|AWp.block ?_
       refine Dr [[],[],[],[],[(47,2),(48,3)],[(49,4)],[],[],[(51,6),(52,7)],[(53,8)],[],[(54,9),(55,10)],[(56,11)],[],[],[(58,13),(59,14)],[(60,15)],[],[(61,16),(62,17)],[(63,18)],[(57,12),(64,19)],[(50,5),(65,20)],[(45,0),(46,1)]] [[],[],[],[],[2,3],[2,3,4],[],[],[6,7],[6,7,8],[],[6,7,8,9,10],[6,7,8,9,10,11],[],[],[13,14],[13,14,15],[],[13,14,15,16,17],[13,14,15,16,17,18],[6,7,8,9,10,11,12,13,14,15,16,17,18,19],[2,3,4,5,6,7,8,9,10,11,12,13,14,15,16,17,18,19,20],[0,1,2,3,4,5,6,7,8,9,10,11,12,13,14,15,16,17,18,19,20,21]] ?_
       refine Xq Ae ?_;refine Xq Ae ?_;refine Xq Ae ?_;refine Xq Ae ?_;refine Xq (BE (k:=j) (ah rfl) (ah rfl) (Ad rfl) (Ad rfl) hltj) ?_;refine Xq (Du (e:=⟨g,42,Bg (Gw A B n k j l) n⟩) 4 0 (ah rfl) rfl rfl (Ad rfl) rfl (BH hltj)) ?_;refine Xq Ae ?_;refine Xq Ae ?_;refine Xq (AR (k:=k) rfl (ah rfl) (Ad rfl) (Ad rfl) rfl hlt) ?_;refine Xq BG ?_;refine Xq Ae ?_;refine Xq (AR (k:=l) rfl (ah rfl) (Ad rfl) (Ad rfl) rfl hltl) ?_;refine Xq As ?_;refine Xq Ae ?_;refine Xq Ae ?_;refine Xq (AR (k:=l) rfl (ah rfl) (Ad rfl) (Ad rfl) rfl hltl) ?_;refine Xq BG ?_;refine Xq Ae ?_;refine Xq (AR (k:=j) rfl (ah rfl) (Ad rfl) (Ad rfl) rfl hltj) ?_;refine Xq As ?_;refine Xq (Af (RE (A k l) (B l j) S T (hA k l) (hB l j) (by omega))) ?_;refine Xq (Af (HV (Gw A B n k j l j) (A k l*B l j) (l*(S+T+1)+1) (S+T) hz ((hA k l).mul (hB l j)) (by omega))) ?_;refine Xq (BE (k:=j) (ah rfl) (ah rfl) (Ad rfl) (Ad rfl) hltj) ?_;refine ⟨_,rfl,?_⟩
       refine EH (e:=⟨g,42,Bg (Gw A B n k j l) n⟩) 4 0 (ao rfl) (ao rfl) rfl rfl (Ad rfl) rfl (DH hltj) rfl ?_;refine AWl.nil<|Ah<|Yn<|AWp.region<|Wm ?_;refine Wq AH ?_;refine Wa<|AWl.nil ?_
       refine ALoop.next (n-(l+1)) (by omega) ⟨l+1,by omega,rfl,rfl⟩ ?_
       exact Ak (by exact Yd<|Yd<|FrLe.cons rfl (AVle.own rfl)<|Yd<|Yd<|Yd<|Yd<|FrLe.nil) (by refine HpLe.cons (BA rfl) ?_;refine HpLe.cons (OwLe.obj rfl) ?_;refine HpLe.cons (OwLe.obj rfl) ?_;refine HpLe.cons (OwLe.dead) ?_;(refine HpLe.cons (OwLe.obj (by rw [<-VC];rfl)) ?_);exact HpLe.nil)
      .obtain rfl:l=n:=by omega
       refine Aa<|Y1<|Wm<|Wm ?_;refine Wq (Bi rfl (Ad rfl)) ?_;refine Wq Aj ?_;refine Y0<|Cf<|AP<|AA<|AF<|AB<|Ah<|Yn<|AWp.region<|Wm ?_;refine Wq AH ?_;refine Wa<|AWl.nil ?_
       refine ALoop.next (l-(j+1)) (by omega) ⟨j+1,by omega,rfl,rfl⟩ ?_
       exact Ak (by exact Yd<|Yd<|FrLe.cons rfl (AVle.own rfl)<|Yd<|Yd<|Yd<|FrLe.nil) (by exact HpLe.cons (BA rfl)<|HpLe.cons (OwLe.obj rfl)<|HpLe.cons (OwLe.obj rfl)<|HpLe.cons (OwLe.dead)<|HpLe.cons (OwLe.obj (by rw [VD]))<|HpLe.nil)
    .obtain rfl:j=n:=by omega
     refine Aa<|Y1<|Wm<|Wm ?_;refine Wq (Fj (ao rfl) (Ad rfl)) ?_;refine Wq Aj ?_;refine Y0<|Cf<|AP<|AA<|AF<|AB<|Yn<|AWp.region<|Wm<|Wm ?_;(refine Cr rfl rfl ?_;(refine Cx (Ad rfl) (Ad rfl) rfl rfl rfl rfl rfl ?_;(repeat ((first | refine ⟨_,AO (ao rfl),?_⟩ | refine ⟨_,Po rfl,?_⟩);refine ⟨_,rfl,?_⟩));refine ⟨_,rfl,?_⟩));(refine UX (r2:=[[sX g j cg]]) (ao rfl) rfl (Ut rfl) (Nat.zero_lt_succ _) rfl (Ad rfl) (Ad rfl) rfl rfl (by rw [hrl];simp;omega) (by rw [hrl];simp;omega) rfl (by first | ((repeat (first | exact PlainHp.nil | refine PlainHp.var ?_ | refine CW ?_ | refine PlainHp.dead ?_ | refine PlainHp.obj ?_ | refine PlainHp.pin rfl ?_ | refine CE rfl ?_));done) | fail) rfl ?_);refine Wa<|AWl.nil<|Ah<|Yn<|AWp.region<|Wm ?_;refine Wq AH ?_;refine Wa<|AWl.nil ?_
     refine ALoop.next (j-(k+1)) (by omega) ⟨k+1,by omega,rfl,DS b k g,DS c k cg,λi hi=>?_,rfl⟩ ?_
     .unfold DS
      split
      .exact ⟨hc1,hc2⟩
      .exact hbc i (by omega)
     .refine FO (Il 2 4 (by decide) rfl rfl rfl rfl) ?_
      exact Ak (by exact Yd<|Yd<|FrLe.cons rfl (AVle.own rfl)<|Yd<|FrLe.nil) (by exact HpLe.cons (BA rfl)<|HpLe.cons (OwLe.obj (by rw [LO]))<|HpLe.cons (OwLe.obj (by rw [VE,LN]))<|HpLe.nil)
  .obtain rfl:k=n:=by omega
   refine Xl 1 rfl hn0 (λg c=>rfl) (by first | ((repeat (first | exact PlainHp.nil | refine PlainHp.var ?_ | refine CW ?_ | refine PlainHp.dead ?_ | refine PlainHp.obj ?_ | refine PlainHp.pin rfl ?_ | refine CE rfl ?_));done) | fail) (λg=>rfl) λb0 c0 hb0 hb0'=>?_
   refine GZ (Il 1 2 (by decide) rfl rfl rfl rfl) ?_
   refine Aa<|Y1<|Wm<|Wm ?_;refine Wq (Bi rfl (Ad rfl)) ?_;refine Wq Aj ?_;refine Y0<|Cf<|AP<|AA<|AF<|AB<|Yn<|Y1<|Wm<|Wa<|Wa<|Y0<|At ?_
   refine Et (RetsA.d (BV (ResV.tmp rfl rfl) (ResV.tmp rfl rfl) (D.le.refl _))) rfl ?_ rfl
   exact ⟨b0,c0,b,c,hb0,hb0',hbc,rfl,rfl⟩
theorem Sj{P:Nat->Nat->Rat}{T:Nat}(hP:∀i j,RSz (P i j) T):∀k,k<=4->RSz (BS k λi=>P i i) (k*(T+1)+1)
 | 0,_=>by
  rw [Nat.zero_mul]
  exact (Dj (x:=0) (by decide) (by decide):RSz ((0:Int):Rat) 1)
 | k+1,h=>by
  rw [BS]
  refine ((Sj hP k (by omega)).add (hP k k)).mono ?_
  rw [Nat.succ_mul]
  omega
theorem Vc(n T b0 c0:Nat)(b c:Nat->Nat)(P:Nat->Nat->Rat)(hn:n<=4)(hP:∀i j,RSz (P i j) T)(hT:T<=1000000000) :
  Con Tryz.prog 67 [.d (sX b0 n c0)] [.obj (Bj (EM n (λ_=>n) b0 b c P))] [] (λr hp'=>r = .d (BF (Bz (Vd n P)))/\hp'=[.obj (Bj (EM n (λ_=>n) b0 b c P)),.dead,.var 42 ((Bz (Vd n P)).map .d),.var 42 ((Bz (Vd n P)).map .d)]):=by
 refine IX Tryz.func67 rfl (AG Tryz.func67 (by kernel_rfl) (by kernel_rfl)) rfl λs0 pv0=>?_
 rw [Tryz.ntmps67]
 apply Y1;refine Al ?_;refine Y0<|Y1 ?_;refine Wq (Af (Bv 0 (by omega) (by omega))) ?_;refine Al ?_;refine Sf ?_;refine Y0<|Aa<|Y1<|Wa<|Y0<|AWp.block ?_
 refine AQ (λmz σ=>∃k,k<=n/\mz=n-k/\σ=⟨[(0,.d (sX b0 n c0)),(2,.ptr 2 0),(3,.ptr 3 0),(4,.d (ex (.int .i64 (k:Nat))))],[.obj (Bj (EM n (λ_=>n) b0 b c P)),.pin [(pv0,.own 0)],.var 42 ([ex (Value.bool false),ex (Value.slice none 0 0),ex (Value.bool false),ex (Value.slice none 0 0)].map .d),.var 42 ((Bz (BS k λi=>P i i)).map .d)]⟩) ?le ⟨0,by omega,rfl,rfl⟩ ?round
 case le=>exact Ak (by exact Yd<|Yp<|Yp<|Yd<|FrLe.nil) (by exact HpLe.cons (OwLe.obj rfl)<|HpLe.cons (BA rfl)<|Yv<|Yv<|HpLe.nil)
 case round=>
  rintro mz _ ⟨k,hk,rfl,rfl⟩
  by_cases hlt:k<n
  .have hz:=Sj hP k (by omega)
   have hle:k*(T+1)<=4*1000000001:=Nat.mul_le_mul (by omega) (by omega)
   refine Aa<|Y1<|Wm<|Wm ?_;refine Wq (Fj (ao rfl) (Ad rfl)) ?_;refine Wq Ai ?_;refine Y0<|Ct<|Ys<|Aa<|AWp.block ?_
   refine Dr [[],[],[],[(13,1),(14,2)],[(15,3)],[],[(16,4),(17,5)],[(18,6)],[(12,0),(19,7)]] [[],[],[],[1,2],[1,2,3],[],[1,2,3,4,5],[1,2,3,4,5,6],[0,1,2,3,4,5,6,7]] ?_
   refine Xq Ar ?_;refine Xq Ae ?_;refine Xq Ae ?_;refine Xq (BE (k:=k) (ah rfl) (ah rfl) (Ad rfl) (Ad rfl) hlt) ?_;refine Xq (Dy 0 0 (ah rfl) rfl rfl (Ad rfl) rfl (JL hlt)) ?_;refine Xq Ae ?_;refine Xq (BE (k:=k) (ah rfl) (ah rfl) (Ad rfl) (Ad rfl) hlt) ?_;refine Xq (Du (e:=⟨b k,42,Bg (P k) n⟩) 0 (k+1) (ah rfl) rfl (Kc hlt) (Ad rfl) rfl (BH hlt)) ?_;refine Xq (Af (HV (BS k λi=>P i i) (P k k) (k*(T+1)+1) T hz (hP k k) (by omega))) ?_;refine ⟨_,rfl,?_⟩
   refine Sf ?_;refine AWl.nil<|Ah<|Yn<|AWp.region<|Wm ?_;refine Wq AH ?_;refine Wa<|AWl.nil ?_
   refine ALoop.next (n-(k+1)) (by omega) ⟨k+1,by omega,rfl,rfl⟩ ?_
   exact Ak (by exact Yd<|Yp<|Yp<|Yd<|FrLe.nil) (by exact HpLe.cons (OwLe.obj rfl)<|HpLe.cons (BA rfl)<|Yv<|Yv<|HpLe.nil)
  .obtain rfl:k=n:=by omega
   refine Aa<|Y1<|Wm<|Wm ?_;refine Wq (Fj (ao rfl) (Ad rfl)) ?_;refine Wq Aj ?_;refine Y0<|Cf<|AP<|AA<|AF<|AB<|Yn<|Y1 ?_;refine Wq Ar ?_;refine Sf ?_;refine Y0<|At ?_
   refine Et (RetsA.d (Rets.of1 (ResV.cell rfl rfl (Ad rfl) rfl rfl rfl) (D.le.refl _))) rfl ?_ rfl
   exact ⟨rfl,rfl⟩
theorem A0N(n k:Nat):Bg (DS zR k ((1:Int):Rat)) n=Bg (Xt k) n:=Di λj _=>by
 unfold DS Xt
 by_cases h:j=k
 .rw [if_pos h,if_pos h.symm];rfl
 .rw [if_neg h,if_neg λe=>h e.symm];rfl
theorem VQ(n:Nat)(hn:n<=4):Abs Tryz.prog 64 [ex (.int .i64 (n:Nat))] (BY n n Xt):=by
 refine Ab Tryz.func64 λs0=>?_
 rw [Tryz.ntmps64]
 refine Y1<|Wa<|Y0<|Y1 ?_;refine EA (Ad rfl) (Ad rfl) rfl rfl rfl rfl rfl ?_;refine Wa<|Y0<|Aa<|Y1<|Wa<|Y0<|AWp.block ?_
 refine AQ (λmz σ=>∃k,k<=n/\mz=n-k/\σ=⟨[(0,.d (ex (.int .i64 (n:Nat)))),(3,.own 0),(4,.d (ex (.int .i64 (k:Nat))))],[.row 62 1 ((List.range k).map λi=>[Jl (Xt i) n])]⟩) ?le ⟨0,by omega,rfl,rfl⟩ ?round
 case le=>exact Ak (by exact Yd<|FrLe.cons rfl (AVle.own rfl)<|Yd<|FrLe.nil) (by exact Yr<|HpLe.nil)
 case round=>
  rintro mz _ ⟨k,hk,rfl,rfl⟩
  by_cases hlt:k<n
  .refine Aa<|Y1<|Wm<|Wm ?_;refine Wq Ai ?_;refine Y0<|Ct<|Ys<|Aa<|AWp.block<|Y1<|Wm ?_
   refine Kk [] [] (Gl n (by omega) (by omega)) ?_
   rintro _ _ ⟨g,cg,hc1,hc2,rfl,rfl⟩
   refine Kr ?_
   refine Wa<|Y0<|Y1<|Wm<|Wm ?_;refine Wq (Af (Bv 1 (by omega) (by omega))) ?_;refine Wq (BE (k:=k) (ao rfl) (ao rfl) (Ad rfl) (Ad rfl) hlt) ?_
   refine EH (e:=⟨g,42,Bg zR n⟩) 2 0 (ao rfl) (ao rfl) rfl rfl (Ad rfl) rfl (DH hlt) rfl ?_
   refine TK (He (R:=Jl (Xt k) n) 2 5 rfl rfl rfl rfl λs hs v hv=>?_) ?_
   .obtain rfl:v = .slice (some ⟨g,0,none⟩) n cg:=hv
    refine Hset.row (hs _ (List.mem_singleton.2 ?_)) hc1 hc2
    rw [<-A0N]
   .refine AWl.nil<|Yn<|AWp.region<|Wm<|Wm ?_; (refine Cr rfl rfl ?_; (refine Cx (Ad rfl) (Ad rfl) rfl rfl rfl rfl rfl ?_; (repeat ((first | refine ⟨_, AO (ao rfl), ?_⟩ | refine ⟨_, Po rfl, ?_⟩); refine ⟨_, rfl, ?_⟩)); refine ⟨_, rfl, ?_⟩)); (refine Qc (r2:=[[Jl (Xt k) n]]) (ao rfl) rfl rfl (Ad rfl) (Ad rfl) rfl rfl (by simp; omega) (by simp; omega) rfl (by first | ((repeat (first | exact PlainHp.nil | refine PlainHp.var ?_ | refine CW ?_ | refine PlainHp.dead ?_ | refine PlainHp.obj ?_ | refine PlainHp.pin rfl ?_ | refine CE rfl ?_)); done) | fail) rfl ?_); refine Wa<|AWl.nil<|Ah<|Yn<|AWp.region<|Wm ?_; refine Wq AH ?_; refine Wa<|AWl.nil ?_
    refine ALoop.next (n-(k+1)) (by omega) ⟨k+1,by omega,rfl,rfl⟩ ?_
    exact Ak (by exact Yd<|FrLe.cons rfl (AVle.own rfl)<|Yd<|FrLe.nil) (by (refine HpLe.cons (Cg (by rw [List.range_succ,List.map_append];rfl)) ?_);exact HpLe.nil)
  .obtain rfl:k=n:=by omega
   refine Aa<|Y1<|Wm<|Wm ?_;refine Wq Aj ?_;refine Y0<|Cf<|AP<|AA<|AF<|AB<|Yn<|Y1<|Wm<|Wa<|Y0<|At ?_
   exact Yf
def UI(n:Nat)(M:Nat->Nat->Rat)(k j:Nat):Rat:=if n<=j then 1 else if n-1-j<k then IY n M (n-1-j) else 0
theorem A3Y(n:Nat)(M:Nat->Nat->Rat):Bg (DS zR n ((1:Int):Rat)) (n+1)=Bg (UI n M 0) (n+1):=Di λj hj=>by
 unfold DS UI
 by_cases h:j=n
 .rw [if_pos h,if_pos (by omega)];rfl
 .rw [if_neg h,if_neg (by omega),if_neg (Nat.not_lt_zero _)];rfl
theorem Zd{n k:Nat}(M:Nat->Nat->Rat)(hk:k<n):UI n M (k+1) (n-(k+1))=IY n M k:=by
 rw [UI,if_neg (by omega),if_pos (by omega),show n-1-(n-(k+1))=k by omega]
theorem Zc{n k:Nat}(M:Nat->Nat->Rat)(hk:k<n):DS (UI n M k) (n-(k+1)) (IY n M k)=UI n M (k+1):=by
 funext j
 rw [DS]
 split
 .rename_i h
  rw [h,Zd M hk]
 .rename_i h
  unfold UI
  by_cases h1:n<=j
  .rw [if_pos h1,if_pos h1]
  .rw [if_neg h1,if_neg h1]
   by_cases h2:n-1-j<k
   .rw [if_pos h2,if_pos (by omega)]
   .rw [if_neg h2,if_neg (by omega)]
theorem A0V(n:Nat)(M:Nat->Nat->Rat):UI n M n=EE n M:=by
 funext j
 unfold UI EE
 by_cases h:n<=j
 .rw [if_pos h,if_neg (by omega)]
 .rw [if_neg h,if_pos (by omega),if_pos (by omega)]
def GW(P:Nat->Nat->Rat)(c:Rat)(i a b:Nat):Rat:=if a<i/\a=b then P a b+c else P a b
theorem WE(P:Nat->Nat->Rat)(c:Rat):GW P c 0=P:=by
 funext a b
 rw [GW,if_neg (by omega)]
theorem WF(P:Nat->Nat->Rat)(c:Rat)(i:Nat):Sh (GW P c i) i i (GW P c i i i+c)=GW P c (i+1):=by
 funext a b
 unfold Sh DS
 by_cases h:a=i
 .subst h
  rw [if_pos rfl]
  by_cases hb:b=a
  .subst hb
   rw [if_pos rfl,GW,GW,if_neg (by omega),if_pos (by omega)]
  .rw [if_neg hb,GW,GW,if_neg (by omega),if_neg (by omega)]
 .rw [if_neg h]
  unfold GW
  by_cases h1:a<i/\a=b
  .rw [if_pos h1,if_pos (by omega)]
  .rw [if_neg h1,if_neg (by omega)]
theorem Zp{P:Nat->Nat->Rat}{c:Rat}{n b0:Nat}{b1 c1:Nat->Nat}:EM n (λ_=>n) b0 b1 c1 (GW P c n)=EM n (λ_=>n) b0 b1 c1 (Km P c):=QV λp hp q _=>by
 unfold GW Km
 by_cases h:p=q
 .rw [if_pos ⟨hp,h⟩,if_pos h]
 .rw [if_neg λx=>h x.2,if_neg h]
def gS:Nat->Nat
 | 0=>1
 | k+1=>20*gS k+240
theorem A3o{n:Nat}{M:Nat->Nat->Rat}(hn:n<=4)(hM:∀i j,RSz (M i j) 10):∀k,k<=4->(∀i j,RSz (FF n M k i j) (gS k))/\(∀i j,RSz (Eb n M (FF n M k) i j) (4*gS k+45))/\RSz (Vd n (Eb n M (FF n M k))) (16*gS k+185)/\RSz (IY n M k) (16*gS k+186):=by
 have two:∀k,k<=4->(∀i j,RSz (FF n M k i j) (gS k))->(∀i j,RSz (FF n M k i j) (gS k))/\(∀i j,RSz (Eb n M (FF n M k) i j) (4*gS k+45))/\RSz (Vd n (Eb n M (FF n M k))) (16*gS k+185)/\RSz (IY n M k) (16*gS k+186):=λk hk h=>by
  have h1:∀i j,RSz (Eb n M (FF n M k) i j) (4*gS k+45):=λi j=>(Pa hn hM h i j n (Nat.le_refl n)).mono (by
   have:n*(10+gS k+1)<=4*(10+gS k+1):=Nat.mul_le_mul hn (Nat.le_refl _)
   omega)
  have h2:RSz (Vd n (Eb n M (FF n M k))) (16*gS k+185):=(Sj h1 n hn).mono (by
   have:n*(4*gS k+45+1)<=4*(4*gS k+45+1):=Nat.mul_le_mul hn (Nat.le_refl _)
   omega)
  refine ⟨h,h1,h2,?_⟩
  rw [IY]
  exact (h2.divQ (Dj (x := ((k + 1 : Nat) : Int)) (by omega) (by omega)) (fun e => by
   have:((k+1:Nat):Int)=0:=Rat.intCast_inj.1 e
   omega)).neg
 intro k
 induction k with
 | zero=>
   intro hk
   refine two 0 hk λi j=>?_
   rw [FF,Xt]
   split
   .exact (Dj (x:=1) (by decide) (by decide):RSz ((1:Int):Rat) 1)
   .exact (Dj (x:=0) (by decide) (by decide):RSz ((0:Int):Rat) 1)
 | succ k ih=>
   intro hk
   refine two (k+1) hk λi j=>?_
   obtain ⟨h1,h2,h3,h4⟩:=ih (by omega)
   rw [FF,Km,gS]
   split
   .exact ((h2 i j).add h4).mono (by omega)
   .exact (h2 i j).mono (by omega)
theorem A3n{k:Nat}(hk:k<=4):gS k<=2200000:=by
 match k,hk with
 | 0,_=>decide
 | 1,_=>decide
 | 2,_=>decide
 | 3,_=>decide
 | 4,_=>decide
theorem Pu(n:Nat)(M:Nat->Nat->Rat)(hn:n<=4)(hM:∀i j,RSz (M i j) 10):Abs Tryz.prog 30 [BY n n M] (CK [Jl (EE n M) (n+1),ex (.int .i64 0)]):=by
 refine Ab Tryz.func30 λs0=>?_
 rw [Tryz.ntmps30]
 refine Y1<|Wa<|Wa<|Y0<|Aa<|Y1<|Wm ?_;refine Wq (Af (LA n M (by omega))) ?_;refine Wq Bl ?_;refine Y0<|Cf<|Ys<|Y1<|Wm ?_;refine Wq (Bi rfl (Ad rfl)) ?_;refine Wa<|Y0<|Y1<|Wm ?_;refine Wq AH ?_
 refine Kk [] [] (Gl (n+1) (by omega) (by omega)) ?_
 rintro _ _ ⟨g,cg,hc1,hc2,rfl,rfl⟩
 refine Kr ?_
 refine Wa<|Y0<|Y1<|Wm<|Wm ?_;refine Wq (Af (Bv 1 (by omega) (by omega))) ?_;refine Wq (BE (k:=n) (ao rfl) (ao rfl) (Ad rfl) (Ad rfl) (by omega)) ?_;refine EH (e:=⟨g,42,Bg zR (n+1)⟩) 1 0 (ao rfl) (ao rfl) rfl rfl (Ad rfl) rfl (DH (by omega)) rfl ?_;refine Y0<|Y1<|Wm ?_;refine Wq (Af (VQ n hn)) ?_;refine Wa<|Y0<|Aa<|Y1<|Wa<|Y0<|AWp.block ?_
 refine AQ (λmz σ=>∃k,k<=n/\mz=n-k/\σ=⟨[(0,.d (BY n n M)),(4,.d (ex (.int .i64 (n:Nat)))),(5,.d (sX g (n+1) cg)),(6,.d (BY n n (FF n M k))),(7,.d (ex (.int .i64 ((k+1:Nat):Int))))],[.dead,.obj (Bj [⟨g,42,Bg (UI n M k) (n+1)⟩])]⟩) ?le ⟨0,by omega,rfl,rfl⟩ ?round
 case le=>exact Ak (by exact Yd<|Yd<|Yd<|FrLe.cons rfl (AVle.d (by rw [FF]))<|Yd<|FrLe.nil) (by refine HpLe.cons (OwLe.dead) ?_;(refine HpLe.cons (OwLe.obj (by rw [<-A3Y];rfl)) ?_);exact HpLe.nil)
 case round=>
  rintro mz _ ⟨k,hk,rfl,rfl⟩
  by_cases hlt:k<n
  .obtain ⟨z1, z2, z3, z4⟩:=A3o hn hM k (by omega)
   have hg:=A3n (show k<=4 by omega)
   have hne:((((k+1:Nat):Int):Rat)).num≠0:=Fv λe=>by
    have:((k+1:Nat):Int)=0:=Rat.intCast_inj.1 e
    omega
   have hw:RSz (((k+1:Nat):Int):Rat) 1:=Dj (by omega) (by omega)
   have hcp:=Zd M hlt
   have hlp:n-(k+1)<n+1:=by omega
   refine Aa<|Y1<|Wm<|Wm ?_;refine Wq Ai ?_;refine Y0<|Ct<|Ys<|Aa<|AWp.block<|Y1<|Wm<|Wm ?_
   refine Kk [] [] (A0G n 10 (gS k) M (FF n M k) (by omega) hn hM z1 (by omega) (by omega)) ?_
   rintro _ _ ⟨b0,c0,b,c,hb0,hb0',hbc,rfl,rfl⟩
   refine Kr ?_
   refine Wm ?_;refine Wq Bd ?_;refine Wq Bd ?_;refine Wa<|Y0<|Y1<|Wm ?_
   refine Kk [3] [] (Vc n (4*gS k+45) b0 c0 b c (Eb n M (FF n M k)) hn z2 (by omega)) ?_
   rintro _ _ ⟨rfl,rfl⟩
   refine Kr ?_
   refine Wm ?_;refine Wq (Af (Bv ((k+1:Nat):Int) (by omega) (by omega))) ?_;refine Wq (Af (WU (Vd n (Eb n M (FF n M k))) (((k+1:Nat):Int):Rat) (16*gS k+185) 1 z3 hw (by omega) hne)) ?_;refine Wm ?_;refine Wq Bd ?_;refine Wq Bd ?_;refine Al ?_;refine Sf ?_;refine Wa<|Y0<|Y1<|Wm<|Wm<|Wm ?_;refine Wq (UO (a:=n) (b:=k+1) (ao rfl) (ao rfl) (by omega) (by omega)) ?_;refine Wq Ar ?_;refine Wq (Af (WT (Vd n (Eb n M (FF n M k))/(((k+1:Nat):Int):Rat)))) ?_;refine Wq (BE (k:=n-(k+1)) (ao rfl) (ao rfl) (Ad rfl) (Ad rfl) hlp) ?_;refine EH (e:=⟨g,42,Bg (UI n M k) (n+1)⟩) 1 0 (ao rfl) (ao rfl) rfl rfl (Ad rfl) rfl (DH hlp) rfl ?_;refine Y0<|Y1<|Wa<|Y0<|AWp.block ?_
   refine AQ (λmz σ=>∃i,i<=n/\mz=n-i/\σ=⟨[(0,.d (BY n n M)),(4,.d (ex (.int .i64 (n:Nat)))),(5,.d (sX g (n+1) cg)),(6,.d (sX b0 n c0)),(7,.d (ex (.int .i64 ((k+1:Nat):Int)))),(10,.d (ex (.int .i64 (i:Nat))))],[.dead,.obj (Bj [⟨g,42,Bg (UI n M (k+1)) (n+1)⟩]),.dead,.obj (Bj (EM n (λ_=>n) b0 b c (GW (Eb n M (FF n M k)) (IY n M k) i)))]⟩) ?lei ⟨0,by omega,rfl,rfl⟩ ?roundi
   case lei=>exact Ak (by exact Yd<|Yd<|Yd<|Yd<|Yd<|Yd<|FrLe.nil) (by refine HpLe.cons (OwLe.dead) ?_;(refine HpLe.cons (OwLe.obj (by rw [<-Zc M hlt,IY];rfl)) ?_);exact HpLe.cons (OwLe.dead)<|HpLe.cons (OwLe.obj (by rw [WE]))<|HpLe.nil)
   case roundi=>
    rintro mz _ ⟨i,hi,rfl,rfl⟩
    by_cases hlti:i<n
    .have za:RSz (GW (Eb n M (FF n M k)) (IY n M k) i i i) (4*gS k+45):=by
      rw [GW,if_neg (by omega)]
      exact z2 i i
     have ca:Abs Tryz.prog 54 [BF (Bz (GW (Eb n M (FF n M k)) (IY n M k) i i i)),BF (Bz (UI n M (k+1) (n-(k+1))))] (BF (Bz (GW (Eb n M (FF n M k)) (IY n M k) i i i+IY n M k))):=by
      rw [hcp]
      exact HV _ _ (4*gS k+45) (16*gS k+186) za z4 (by omega)
     refine Aa<|Y1<|Wm<|Wm ?_;refine Wq Ai ?_;refine Y0<|Ct<|Ys<|Aa<|AWp.block ?_
     refine Dr [[],[],[(56,0),(57,1)],[(58,2)],[],[],[],[(61,5),(62,6)],[(63,7)],[],[(64,8),(65,9)],[(66,10)],[],[],[],[(69,13),(70,14)],[(68,12),(71,15)],[(72,16)],[(67,11),(73,17)],[(59,3),(60,4)]] [[],[],[0,1],[0,1,2],[],[],[],[5,6],[5,6,7],[],[5,6,7,8,9],[5,6,7,8,9,10],[],[],[],[13,14],[12,13,14,15],[12,13,14,15,16],[5,6,7,8,9,10,11,12,13,14,15,16,17],[0,1,2,3,4,5,6,7,8,9,10,11,12,13,14,15,16,17,18]] ?_
     refine Xq Ae ?_;refine Xq Ae ?_;refine Xq (BE (k:=i) (ah rfl) (ah rfl) (Ad rfl) (Ad rfl) hlti) ?_;refine Xq (Dy 3 0 (ah rfl) rfl rfl (Ad rfl) rfl (JL hlti)) ?_;refine Xq Ae ?_;refine Xq Ae ?_;refine Xq Ae ?_;refine Xq (BE (k:=i) (ah rfl) (ah rfl) (Ad rfl) (Ad rfl) hlti) ?_;refine Xq (Dy 3 0 (ah rfl) rfl rfl (Ad rfl) rfl (JL hlti)) ?_;refine Xq Ae ?_;refine Xq (BE (k:=i) (ah rfl) (ah rfl) (Ad rfl) (Ad rfl) hlti) ?_;refine Xq (Du (e:=⟨b i,42,Bg (GW (Eb n M (FF n M k)) (IY n M k) i i) n⟩) 3 (i+1) (ah rfl) rfl (Kc hlti) (Ad rfl) rfl (BH hlti)) ?_;refine Xq Ae ?_;refine Xq Ae ?_;refine Xq Ae ?_;refine Xq (UO (a:=n) (b:=k+1) (ah rfl) (ah rfl) (by omega) (by omega)) ?_;refine Xq (BE (k:=n-(k+1)) (ah rfl) (ah rfl) (Ad rfl) (Ad rfl) hlp) ?_;refine Xq (Du (e:=⟨g,42,Bg (UI n M (k+1)) (n+1)⟩) 1 0 (ah rfl) rfl rfl (Ad rfl) rfl (BH hlp)) ?_;refine Xq (Af (ca)) ?_;refine Xq (BE (k:=i) (ah rfl) (ah rfl) (Ad rfl) (Ad rfl) hlti) ?_;refine ⟨_,rfl,?_⟩
     refine EH (e:=⟨b i,42,Bg (GW (Eb n M (FF n M k)) (IY n M k) i i) n⟩) 3 (i+1) (ao rfl) (ao rfl) rfl (Kc hlti) (Ad rfl) rfl (DH hlti) rfl ?_;refine AWl.nil<|Ah<|Yn<|AWp.region<|Wm ?_;refine Wq AH ?_;refine Wa<|AWl.nil ?_
     refine ALoop.next (n-(i+1)) (by omega) ⟨i+1,by omega,rfl,rfl⟩ ?_
     exact Ak (by exact Yd<|Yd<|Yd<|Yd<|Yd<|Yd<|FrLe.nil) (by exact HpLe.cons (OwLe.dead)<|HpLe.cons (OwLe.obj rfl)<|HpLe.cons (OwLe.dead)<|HpLe.cons (OwLe.obj (by rw [VT hlti,WF]))<|HpLe.nil)
    .obtain rfl:i=n:=by omega
     refine GZ (He (R:=BY i i (FF i M (k+1))) 3 6 rfl rfl rfl rfl λs hs v hv=>?_) ?_
     .rw [Zp] at hs
      rw [FF]
      exact YP hs (λ_ _=>rfl) hbc hb0 hb0' hv
     refine Aa<|Y1<|Wm<|Wm ?_;refine Wq Aj ?_;refine Y0<|Cf<|AP<|AA<|AF<|AB<|Ah<|Yn<|AWp.region<|Wm ?_;refine Wq AH ?_;refine Wa<|AWl.nil ?_
     refine ALoop.next (i-(k+1)) (by omega) ⟨k+1,by omega,rfl,rfl⟩ ?_
     exact Ak (by exact Yd<|Yd<|Yd<|Yd<|Yd<|FrLe.nil) (by exact HpLe.cons (OwLe.dead)<|HpLe.cons (OwLe.obj rfl)<|HpLe.nil)
  .obtain rfl:k=n:=by omega
   refine GZ (He (R:=Jl (EE k M) (k+1)) 1 5 rfl rfl rfl rfl λs hs v hv=>?_) ?_
   .obtain rfl:v = .slice (some ⟨g,0,none⟩) (k+1:Nat) cg:=hv
    rw [A0V] at hs
    exact Hset.row (hs _ List.mem_cons_self) hc1 hc2
   refine Aa<|Y1<|Wm<|Wm ?_;refine Wq Aj ?_;refine Y0<|Cf<|AP<|AA<|AF<|AB<|Yn<|Y1<|Wm<|Wa<|Wa<|Y0<|At ?_
   exact Bf (BV (ResV.tmp rfl rfl) (ResV.tmp rfl rfl) (BM (D.le.refl _) (D.le.refl _)))
def JP(f:Nat->Rat)(odd:Bool)(k:Nat):Int:=if odd=true/\k%2=1 then -(f k).num.sign else (f k).num.sign
theorem XP(f:Nat->Rat)(odd:Bool)(k:Nat):Jg f odd (k+1)=Jg f odd k++[JP f odd k]:=by
 simp [Jg,List.range_succ,JP]
def Nk(f:Nat->Rat)(odd:Bool)(k:Nat):Nat×Int:=(Jg f odd k).foldl Sd (0,0)
theorem Rl(f:Nat->Rat)(odd:Bool)(k:Nat):Nk f odd (k+1)=Sd (Nk f odd k) (JP f odd k):=by
 rw [Nk,XP,List.foldl_append]
 rfl
theorem A0i(f:Nat->Rat)(odd:Bool)(k:Nat):JP f odd k = -1\/JP f odd k=0\/JP f odd k=1:=by
 have h:(f k).num.sign = -1\/(f k).num.sign=0\/(f k).num.sign=1:=by
  rcases Int.lt_trichotomy (f k).num 0 with h | h | h
  .exact .inl (Int.sign_eq_neg_one_of_neg h)
  .exact .inr (.inl (by rw [h];rfl))
  .exact .inr (.inr (Int.sign_eq_one_of_pos h))
 unfold JP
 generalize (f k).num.sign=x at h
 split<;>omega
theorem Zh(f:Nat->Rat)(odd:Bool):∀k,(Nk f odd k).1<=k
 | 0=>Nat.le_refl _
 | k+1=>by
  rw [Rl]
  have:=Zh f odd k
  unfold Sd
  dsimp only
  split<;>omega
theorem KH(f:Nat->Rat)(odd:Bool)(m:Nat)(hm:m<=1000):Abs Tryz.prog 31 [Jl f m,ex (.bool odd)] (ex (.int .i64 (chg (Jg f odd m):Nat))):=by
 refine Ab Tryz.func31 λs0=>?_
 rw [Tryz.ntmps31]
 refine Y1<|Wa<|Y0<|Y1<|Wa<|Wa<|Y0<|Aa<|Y1<|Wa<|Y0<|AWp.block ?_
 refine AQ (λmz σ=>∃k,k<=m/\mz=m-k/\σ=⟨[(0,.d (Jl f m)),(1,.d (ex (.bool odd))),(5,.d (ex (.int .i64 ((Nk f odd k).1:Nat)))),(6,.d (ex (.int .i64 (Nk f odd k).2))),(7,.d (ex (.int .i64 (k:Nat))))],[]⟩) ?le ⟨0,by omega,rfl,rfl⟩ ?round
 case le=>exact Ak (by exact Yd<|Yd<|Yd<|Yd<|Yd<|FrLe.nil) (by exact HpLe.nil)
 case round=>
  rintro mz _ ⟨k,hk,rfl,rfl⟩
  by_cases hlt:k<m
  .have hs:=A0i f odd k
   have hle:=Zh f odd k
   have hst:=Rl f odd k
   cases odd
   .have hsg:JP f false k=(f k).num.sign:=by simp [JP]
    rw [hsg] at hs hst
    obtain ⟨s,hse⟩:∃s,s=(f k).num.sign:=⟨_,rfl⟩
    rw [<-hse] at hs hst
    have cs:=De (f k)
    rw [<-hse] at cs
    rcases hcl:Nk f false k with ⟨c,l⟩
    rw [hcl] at hle hst
    dsimp only at hle ⊢
    by_cases h0:s=0
    .subst h0
     have e1:Nk f false (k+1)=(c,l):=by rw [hst,Sd];simp
     refine Aa<|Y1<|Wm<|Wm ?_;refine Wq (Bi rfl (Ad rfl)) ?_;refine Wq Ai ?_;refine Y0<|Ct<|Ys<|Aa<|AWp.block<|Y1<|Wm<|Wm ?_;refine Wq (AR (k:=k) rfl (ao rfl) (Ad rfl) (Ad rfl) rfl hlt) ?_;refine Wq As ?_;refine Wq (Af (cs)) ?_;refine Wa<|Y0<|Aa<|Y1<|Wm<|Wm ?_;refine Ws ?_;refine Ws ?_;refine Ws ?_;refine Wq Az ?_;refine Y0<|Cf<|Ys<|Aa<|Y1<|Wm ?_;refine Wq Aj ?_;refine Wm ?_;refine Ws ?_;refine Ws ?_;refine Wq Az ?_;refine Wm ?_;refine Ws ?_;refine Ws ?_;refine Ws ?_;refine Wq Az ?_;refine Y0<|Cf<|Ys<|Y1<|Wm ?_;refine Wq Aj ?_;refine Y0<|Cf<|Bw<|Ah<|Yn<|AWp.region<|Wm ?_;refine Wq AH ?_;refine Wa<|AWl.nil ?_
     refine ALoop.next (m-(k+1)) (by omega) ⟨k+1,by omega,rfl,rfl⟩ ?_
     exact Ak (by exact Yd<|Yd<|FrLe.cons rfl (AVle.d (by rw [e1]))<|FrLe.cons rfl (AVle.d (by rw [e1]))<|Yd<|FrLe.nil) (by exact HpLe.nil)
    .by_cases hl:l=0
     .subst hl
      have e1:Nk f false (k+1)=(c,s):=by rw [hst,Sd];simp [h0]
      refine Aa<|Y1<|Wm<|Wm ?_;refine Wq (Bi rfl (Ad rfl)) ?_;refine Wq Ai ?_;refine Y0<|Ct<|Ys<|Aa<|AWp.block<|Y1<|Wm<|Wm ?_;refine Wq (AR (k:=k) rfl (ao rfl) (Ad rfl) (Ad rfl) rfl hlt) ?_;refine Wq As ?_;refine Wq (Af (cs)) ?_;refine Wa<|Y0<|Aa<|Y1<|Wm<|Wm ?_;refine Ws ?_;refine Ws ?_;refine Ws ?_;refine Wq Az ?_;refine Y0<|Cf<|Ys<|Aa<|Y1<|Wm ?_;refine Wq Ai ?_;refine Wm ?_;refine Wg Ae ?_;refine Wg Aj ?_;refine Wq AE ?_;refine Wm ?_;refine Ws ?_;refine Ws ?_;refine Ws ?_;refine Wq Az ?_;refine Y0<|Cf<|Ys<|Y1<|Wm ?_;refine Wq Ai ?_;refine Y0<|Ct<|AWp.region<|Wm<|Wa<|AWl.nil<|Ah<|Yn<|AWp.region<|Wm ?_;refine Wq AH ?_;refine Wa<|AWl.nil ?_
      refine ALoop.next (m-(k+1)) (by omega) ⟨k+1,by omega,rfl,rfl⟩ ?_
      exact Ak (by exact Yd<|Yd<|FrLe.cons rfl (AVle.d (by rw [e1]))<|FrLe.cons rfl (AVle.d (by rw [e1]))<|Yd<|FrLe.nil) (by exact HpLe.nil)
     .by_cases hsl:s=l
      .have e1:Nk f false (k+1)=(c, s):=by rw [hst, Sd]; simp [h0, hl, hsl]
       refine Aa<|Y1<|Wm<|Wm ?_;refine Wq (Bi rfl (Ad rfl)) ?_;refine Wq Ai ?_;refine Y0<|Ct<|Ys<|Aa<|AWp.block<|Y1<|Wm<|Wm ?_;refine Wq (AR (k:=k) rfl (ao rfl) (Ad rfl) (Ad rfl) rfl hlt) ?_;refine Wq As ?_;refine Wq (Af (cs)) ?_;refine Wa<|Y0<|Aa<|Y1<|Wm<|Wm ?_;refine Ws ?_;refine Ws ?_;refine Ws ?_;refine Wq Az ?_;refine Y0<|Cf<|Ys<|Aa<|Y1<|Wm ?_;refine Wq Ai ?_;refine Wm ?_;refine Wg Ae ?_;refine Wg Ai ?_;refine Wq AE ?_;refine Wm ?_;refine Wg Ae ?_;refine Wg Ae ?_;refine Wg Aj ?_;refine Wq AE ?_;refine Y0<|Cf<|Ys<|Y1<|Wm ?_;refine Wq Ai ?_;refine Y0<|Ct<|AWp.region<|Wm<|Wa<|AWl.nil<|Ah<|Yn<|AWp.region<|Wm ?_;refine Wq AH ?_;refine Wa<|AWl.nil ?_
       refine ALoop.next (m-(k+1)) (by omega) ⟨k+1,by omega,rfl,rfl⟩ ?_
       exact Ak (by exact Yd<|Yd<|FrLe.cons rfl (AVle.d (by rw [e1]))<|FrLe.cons rfl (AVle.d (by rw [e1]))<|Yd<|FrLe.nil) (by exact HpLe.nil)
      .have e1:Nk f false (k+1)=(c+1, s):=by rw [hst, Sd]; simp [h0, hl, hsl]
       refine Aa<|Y1<|Wm<|Wm ?_;refine Wq (Bi rfl (Ad rfl)) ?_;refine Wq Ai ?_;refine Y0<|Ct<|Ys<|Aa<|AWp.block<|Y1<|Wm<|Wm ?_;refine Wq (AR (k:=k) rfl (ao rfl) (Ad rfl) (Ad rfl) rfl hlt) ?_;refine Wq As ?_;refine Wq (Af (cs)) ?_;refine Wa<|Y0<|Aa<|Y1<|Wm<|Wm ?_;refine Ws ?_;refine Ws ?_;refine Ws ?_;refine Wq Az ?_;refine Y0<|Cf<|Ys<|Aa<|Y1<|Wm ?_;refine Wq Ai ?_;refine Wm ?_;refine Wg Ae ?_;refine Wg Ai ?_;refine Wq AE ?_;refine Wm ?_;refine Wg Ae ?_;refine Wg Ae ?_;refine Wg Ai ?_;refine Wq AE ?_;refine Y0<|Ct<|AWp.region<|Wm ?_;refine Wq AH ?_;refine Wa<|Y0<|Y1<|Wm ?_;refine Wq Ai ?_;refine Y0<|Ct<|AWp.region<|Wm<|Wa<|AWl.nil<|Ah<|Yn<|AWp.region<|Wm ?_;refine Wq AH ?_;refine Wa<|AWl.nil ?_
       refine ALoop.next (m-(k+1)) (by omega) ⟨k+1,by omega,rfl,rfl⟩ ?_
       exact Ak (by exact Yd<|Yd<|FrLe.cons rfl (AVle.d (by rw [e1]))<|FrLe.cons rfl (AVle.d (by rw [e1]))<|Yd<|FrLe.nil) (by exact HpLe.nil)
   .by_cases hk2:k%2=1
    .have hsg:JP f true k = -(f k).num.sign:=by simp [JP, hk2]
     rw [hsg] at hs hst
     obtain ⟨s,hse⟩:∃s,s=(f k).num.sign:=⟨_,rfl⟩
     rw [<-hse] at hs hst
     have cs:=De (f k)
     rw [<-hse] at cs
     rcases hcl:Nk f true k with ⟨c,l⟩
     rw [hcl] at hle hst
     dsimp only at hle ⊢
     by_cases h0:s=0
     .subst h0
      have e1:Nk f true (k+1)=(c,l):=by rw [hst,Sd];simp
      refine Aa<|Y1<|Wm<|Wm ?_;refine Wq (Bi rfl (Ad rfl)) ?_;refine Wq Ai ?_;refine Y0<|Ct<|Ys<|Aa<|AWp.block<|Y1<|Wm<|Wm ?_;refine Wq (AR (k:=k) rfl (ao rfl) (Ad rfl) (Ad rfl) rfl hlt) ?_;refine Wq As ?_;refine Wq (Af (cs)) ?_;refine Wa<|Y0<|Aa<|Y1<|Wm<|Wm ?_;refine Wg Ae ?_;refine Wg Co ?_;refine Wg Ai ?_;refine Wq AE ?_;refine Y0<|Ct<|AWp.region<|Wm ?_;refine Wq PJ ?_;refine Wa<|Y0<|Aa<|Y1<|Wm ?_;refine Wq Aj ?_;refine Wm ?_;refine Ws ?_;refine Ws ?_;refine Wq Az ?_;refine Wm ?_;refine Ws ?_;refine Ws ?_;refine Ws ?_;refine Wq Az ?_;refine Y0<|Cf<|Ys<|Y1<|Wm ?_;refine Wq Aj ?_;refine Y0<|Cf<|Bw<|Ah<|Yn<|AWp.region<|Wm ?_;refine Wq AH ?_;refine Wa<|AWl.nil ?_
      refine ALoop.next (m-(k+1)) (by omega) ⟨k+1,by omega,rfl,rfl⟩ ?_
      exact Ak (by exact Yd<|Yd<|FrLe.cons rfl (AVle.d (by rw [e1]))<|FrLe.cons rfl (AVle.d (by rw [e1]))<|Yd<|FrLe.nil) (by exact HpLe.nil)
     .by_cases hl:l=0
      .subst hl
       have e1:Nk f true (k+1)=(c,-s):=by rw [hst,Sd];simp [h0]
       refine Aa<|Y1<|Wm<|Wm ?_;refine Wq (Bi rfl (Ad rfl)) ?_;refine Wq Ai ?_;refine Y0<|Ct<|Ys<|Aa<|AWp.block<|Y1<|Wm<|Wm ?_;refine Wq (AR (k:=k) rfl (ao rfl) (Ad rfl) (Ad rfl) rfl hlt) ?_;refine Wq As ?_;refine Wq (Af (cs)) ?_;refine Wa<|Y0<|Aa<|Y1<|Wm<|Wm ?_;refine Wg Ae ?_;refine Wg Co ?_;refine Wg Ai ?_;refine Wq AE ?_;refine Y0<|Ct<|AWp.region<|Wm ?_;refine Wq PJ ?_;refine Wa<|Y0<|Aa<|Y1<|Wm ?_;refine Wq Ai ?_;refine Wm ?_;refine Wg Ae ?_;refine Wg Aj ?_;refine Wq AE ?_;refine Wm ?_;refine Ws ?_;refine Ws ?_;refine Ws ?_;refine Wq Az ?_;refine Y0<|Cf<|Ys<|Y1<|Wm ?_;refine Wq Ai ?_;refine Y0<|Ct<|AWp.region<|Wm<|Wa<|AWl.nil<|Ah<|Yn<|AWp.region<|Wm ?_;refine Wq AH ?_;refine Wa<|AWl.nil ?_
       refine ALoop.next (m-(k+1)) (by omega) ⟨k+1,by omega,rfl,rfl⟩ ?_
       exact Ak (by exact Yd<|Yd<|FrLe.cons rfl (AVle.d (by rw [e1]))<|FrLe.cons rfl (AVle.d (by rw [e1]))<|Yd<|FrLe.nil) (by exact HpLe.nil)
      .by_cases hsl:-s=l
       .have e1:Nk f true (k+1)=(c, -s):=by rw [hst, Sd]; simp [h0, hl, hsl]
        refine Aa<|Y1<|Wm<|Wm ?_;refine Wq (Bi rfl (Ad rfl)) ?_;refine Wq Ai ?_;refine Y0<|Ct<|Ys<|Aa<|AWp.block<|Y1<|Wm<|Wm ?_;refine Wq (AR (k:=k) rfl (ao rfl) (Ad rfl) (Ad rfl) rfl hlt) ?_;refine Wq As ?_;refine Wq (Af (cs)) ?_;refine Wa<|Y0<|Aa<|Y1<|Wm<|Wm ?_;refine Wg Ae ?_;refine Wg Co ?_;refine Wg Ai ?_;refine Wq AE ?_;refine Y0<|Ct<|AWp.region<|Wm ?_;refine Wq PJ ?_;refine Wa<|Y0<|Aa<|Y1<|Wm ?_;refine Wq Ai ?_;refine Wm ?_;refine Wg Ae ?_;refine Wg Ai ?_;refine Wq AE ?_;refine Wm ?_;refine Wg Ae ?_;refine Wg Ae ?_;refine Wg Aj ?_;refine Wq AE ?_;refine Y0<|Cf<|Ys<|Y1<|Wm ?_;refine Wq Ai ?_;refine Y0<|Ct<|AWp.region<|Wm<|Wa<|AWl.nil<|Ah<|Yn<|AWp.region<|Wm ?_;refine Wq AH ?_;refine Wa<|AWl.nil ?_
        refine ALoop.next (m-(k+1)) (by omega) ⟨k+1,by omega,rfl,rfl⟩ ?_
        exact Ak (by exact Yd<|Yd<|FrLe.cons rfl (AVle.d (by rw [e1]))<|FrLe.cons rfl (AVle.d (by rw [e1]))<|Yd<|FrLe.nil) (by exact HpLe.nil)
       .have e1:Nk f true (k+1)=(c+1, -s):=by rw [hst, Sd]; simp [h0, hl, hsl]
        refine Aa<|Y1<|Wm<|Wm ?_;refine Wq (Bi rfl (Ad rfl)) ?_;refine Wq Ai ?_;refine Y0<|Ct<|Ys<|Aa<|AWp.block<|Y1<|Wm<|Wm ?_;refine Wq (AR (k:=k) rfl (ao rfl) (Ad rfl) (Ad rfl) rfl hlt) ?_;refine Wq As ?_;refine Wq (Af (cs)) ?_;refine Wa<|Y0<|Aa<|Y1<|Wm<|Wm ?_;refine Wg Ae ?_;refine Wg Co ?_;refine Wg Ai ?_;refine Wq AE ?_;refine Y0<|Ct<|AWp.region<|Wm ?_;refine Wq PJ ?_;refine Wa<|Y0<|Aa<|Y1<|Wm ?_;refine Wq Ai ?_;refine Wm ?_;refine Wg Ae ?_;refine Wg Ai ?_;refine Wq AE ?_;refine Wm ?_;refine Wg Ae ?_;refine Wg Ae ?_;refine Wg Ai ?_;refine Wq AE ?_;refine Y0<|Ct<|AWp.region<|Wm ?_;refine Wq AH ?_;refine Wa<|Y0<|Y1<|Wm ?_;refine Wq Ai ?_;refine Y0<|Ct<|AWp.region<|Wm<|Wa<|AWl.nil<|Ah<|Yn<|AWp.region<|Wm ?_;refine Wq AH ?_;refine Wa<|AWl.nil ?_
        refine ALoop.next (m-(k+1)) (by omega) ⟨k+1,by omega,rfl,rfl⟩ ?_
        exact Ak (by exact Yd<|Yd<|FrLe.cons rfl (AVle.d (by rw [e1]))<|FrLe.cons rfl (AVle.d (by rw [e1]))<|Yd<|FrLe.nil) (by exact HpLe.nil)
    .have hsg:JP f true k=(f k).num.sign:=by simp [JP, hk2]
     rw [hsg] at hs hst
     obtain ⟨s,hse⟩:∃s,s=(f k).num.sign:=⟨_,rfl⟩
     rw [<-hse] at hs hst
     have cs:=De (f k)
     rw [<-hse] at cs
     rcases hcl:Nk f true k with ⟨c,l⟩
     rw [hcl] at hle hst
     dsimp only at hle ⊢
     by_cases h0:s=0
     .subst h0
      have e1:Nk f true (k+1)=(c,l):=by rw [hst,Sd];simp
      refine Aa<|Y1<|Wm<|Wm ?_;refine Wq (Bi rfl (Ad rfl)) ?_;refine Wq Ai ?_;refine Y0<|Ct<|Ys<|Aa<|AWp.block<|Y1<|Wm<|Wm ?_;refine Wq (AR (k:=k) rfl (ao rfl) (Ad rfl) (Ad rfl) rfl hlt) ?_;refine Wq As ?_;refine Wq (Af (cs)) ?_;refine Wa<|Y0<|Aa<|Y1<|Wm<|Wm ?_;refine Wg Ae ?_;refine Wg Co ?_;refine Wg Aj ?_;refine Wq AE ?_;refine Y0<|Cf<|Ys<|Aa<|Y1<|Wm ?_;refine Wq Aj ?_;refine Wm ?_;refine Ws ?_;refine Ws ?_;refine Wq Az ?_;refine Wm ?_;refine Ws ?_;refine Ws ?_;refine Ws ?_;refine Wq Az ?_;refine Y0<|Cf<|Ys<|Y1<|Wm ?_;refine Wq Aj ?_;refine Y0<|Cf<|Bw<|Ah<|Yn<|AWp.region<|Wm ?_;refine Wq AH ?_;refine Wa<|AWl.nil ?_
      refine ALoop.next (m-(k+1)) (by omega) ⟨k+1,by omega,rfl,rfl⟩ ?_
      exact Ak (by exact Yd<|Yd<|FrLe.cons rfl (AVle.d (by rw [e1]))<|FrLe.cons rfl (AVle.d (by rw [e1]))<|Yd<|FrLe.nil) (by exact HpLe.nil)
     .by_cases hl:l=0
      .subst hl
       have e1:Nk f true (k+1)=(c,s):=by rw [hst,Sd];simp [h0]
       refine Aa<|Y1<|Wm<|Wm ?_;refine Wq (Bi rfl (Ad rfl)) ?_;refine Wq Ai ?_;refine Y0<|Ct<|Ys<|Aa<|AWp.block<|Y1<|Wm<|Wm ?_;refine Wq (AR (k:=k) rfl (ao rfl) (Ad rfl) (Ad rfl) rfl hlt) ?_;refine Wq As ?_;refine Wq (Af (cs)) ?_;refine Wa<|Y0<|Aa<|Y1<|Wm<|Wm ?_;refine Wg Ae ?_;refine Wg Co ?_;refine Wg Aj ?_;refine Wq AE ?_;refine Y0<|Cf<|Ys<|Aa<|Y1<|Wm ?_;refine Wq Ai ?_;refine Wm ?_;refine Wg Ae ?_;refine Wg Aj ?_;refine Wq AE ?_;refine Wm ?_;refine Ws ?_;refine Ws ?_;refine Ws ?_;refine Wq Az ?_;refine Y0<|Cf<|Ys<|Y1<|Wm ?_;refine Wq Ai ?_;refine Y0<|Ct<|AWp.region<|Wm<|Wa<|AWl.nil<|Ah<|Yn<|AWp.region<|Wm ?_;refine Wq AH ?_;refine Wa<|AWl.nil ?_
       refine ALoop.next (m-(k+1)) (by omega) ⟨k+1,by omega,rfl,rfl⟩ ?_
       exact Ak (by exact Yd<|Yd<|FrLe.cons rfl (AVle.d (by rw [e1]))<|FrLe.cons rfl (AVle.d (by rw [e1]))<|Yd<|FrLe.nil) (by exact HpLe.nil)
      .by_cases hsl:s=l
       .have e1:Nk f true (k+1)=(c, s):=by rw [hst, Sd]; simp [h0, hl, hsl]
        refine Aa<|Y1<|Wm<|Wm ?_;refine Wq (Bi rfl (Ad rfl)) ?_;refine Wq Ai ?_;refine Y0<|Ct<|Ys<|Aa<|AWp.block<|Y1<|Wm<|Wm ?_;refine Wq (AR (k:=k) rfl (ao rfl) (Ad rfl) (Ad rfl) rfl hlt) ?_;refine Wq As ?_;refine Wq (Af (cs)) ?_;refine Wa<|Y0<|Aa<|Y1<|Wm<|Wm ?_;refine Wg Ae ?_;refine Wg Co ?_;refine Wg Aj ?_;refine Wq AE ?_;refine Y0<|Cf<|Ys<|Aa<|Y1<|Wm ?_;refine Wq Ai ?_;refine Wm ?_;refine Wg Ae ?_;refine Wg Ai ?_;refine Wq AE ?_;refine Wm ?_;refine Wg Ae ?_;refine Wg Ae ?_;refine Wg Aj ?_;refine Wq AE ?_;refine Y0<|Cf<|Ys<|Y1<|Wm ?_;refine Wq Ai ?_;refine Y0<|Ct<|AWp.region<|Wm<|Wa<|AWl.nil<|Ah<|Yn<|AWp.region<|Wm ?_;refine Wq AH ?_;refine Wa<|AWl.nil ?_
        refine ALoop.next (m-(k+1)) (by omega) ⟨k+1,by omega,rfl,rfl⟩ ?_
        exact Ak (by exact Yd<|Yd<|FrLe.cons rfl (AVle.d (by rw [e1]))<|FrLe.cons rfl (AVle.d (by rw [e1]))<|Yd<|FrLe.nil) (by exact HpLe.nil)
       .have e1:Nk f true (k+1)=(c+1, s):=by rw [hst, Sd]; simp [h0, hl, hsl]
        refine Aa<|Y1<|Wm<|Wm ?_;refine Wq (Bi rfl (Ad rfl)) ?_;refine Wq Ai ?_;refine Y0<|Ct<|Ys<|Aa<|AWp.block<|Y1<|Wm<|Wm ?_;refine Wq (AR (k:=k) rfl (ao rfl) (Ad rfl) (Ad rfl) rfl hlt) ?_;refine Wq As ?_;refine Wq (Af (cs)) ?_;refine Wa<|Y0<|Aa<|Y1<|Wm<|Wm ?_;refine Wg Ae ?_;refine Wg Co ?_;refine Wg Aj ?_;refine Wq AE ?_;refine Y0<|Cf<|Ys<|Aa<|Y1<|Wm ?_;refine Wq Ai ?_;refine Wm ?_;refine Wg Ae ?_;refine Wg Ai ?_;refine Wq AE ?_;refine Wm ?_;refine Wg Ae ?_;refine Wg Ae ?_;refine Wg Ai ?_;refine Wq AE ?_;refine Y0<|Ct<|AWp.region<|Wm ?_;refine Wq AH ?_;refine Wa<|Y0<|Y1<|Wm ?_;refine Wq Ai ?_;refine Y0<|Ct<|AWp.region<|Wm<|Wa<|AWl.nil<|Ah<|Yn<|AWp.region<|Wm ?_;refine Wq AH ?_;refine Wa<|AWl.nil ?_
        refine ALoop.next (m-(k+1)) (by omega) ⟨k+1,by omega,rfl,rfl⟩ ?_
        exact Ak (by exact Yd<|Yd<|FrLe.cons rfl (AVle.d (by rw [e1]))<|FrLe.cons rfl (AVle.d (by rw [e1]))<|Yd<|FrLe.nil) (by exact HpLe.nil)
  .obtain rfl:k=m:=by omega
   refine Aa<|Y1<|Wm<|Wm ?_;refine Wq (Bi rfl (Ad rfl)) ?_;refine Wq Aj ?_;refine Y0<|Cf<|AP<|AA<|AF<|AB<|Yn<|Y1<|Wm<|Wa<|Y0<|At ?_
   exact Yf
theorem Nf(n:Nat)(M:Nat->Nat->Rat)(hn:n<=4)(hM:∀i j,RSz (M i j) 10)(hs:∀i j,M i j=M j i):Abs Tryz.prog 7 [BY n n M] (CK [ex (.int .i64 (chg (Jg (EE n M) false (n+1)):Nat)),ex (.int .i64 (chg (Jg (EE n M) true (n+1)):Nat)),ex (.int .i64 0)]):=by
 refine Ab Tryz.func7 λs0=>?_
 rw [Tryz.ntmps7]
 refine Y1<|Wa<|Wa<|Wa<|Y0<|Aa<|Y1<|Wm ?_;refine Wq (Af (LA n M (by omega))) ?_;refine Wq Bl ?_;refine Y0<|Cf<|Ys<|Aa<|Y1<|Wm ?_;refine Wq (Af (WD n M (by omega) (λi _ j _=>hs i j))) ?_;refine Wq Bl ?_;refine Y0<|Cf<|Ys<|Y1<|Wm ?_;refine Wq (Af (Pu n M hn hM)) ?_;refine Wm ?_;refine Wq Bd ?_;refine Wq Bd ?_;refine Wa<|Wa<|Y0<|Y1<|Wm ?_;refine Wq (Af (KH (EE n M) false (n+1) (by omega))) ?_;refine Wm ?_;refine Wq (Af (KH (EE n M) true (n+1) (by omega))) ?_;refine Wa<|Wa<|Wa<|Y0<|At ?_
 exact Bf (Zu (ResV.tmp rfl rfl) (ResV.tmp rfl rfl) (ResV.tmp rfl rfl) (D.le.refl _))
def Vp(ms:List (Nat->Int))(M:Nat->Nat->Rat)(i:Nat)(P:List Tm):Nat->List Tm
 | 0=>P
 | j+1=>CV (Vp ms M i P j) (Eu (M i j) [⟨((1:Int):Rat),Ba (JY ms i) (JY ms j)⟩])
def Pq(ms:List (Nat->Int))(M:Nat->Nat->Rat)(n:Nat):Nat->List Tm
 | 0=>[]
 | i+1=>Vp ms M i (Pq ms M n i) n
theorem Rd{f:(Nat->Int)->Rat}(hf:IT f)(ms:List (Nat->Int))(M:Nat->Nat->Rat)(i:Nat)(P:List Tm):∀n,Dl f (Vp ms M i P n)=Dl f P+BS n λj=>M i j*f (Ba (JY ms i) (JY ms j))
 | 0=>(Rat.add_zero _).symm
 | n+1=>by
  rw [Vp,GR hf,JB hf,Rd hf ms M i P n,BS]
  show _+M i n*(((1:Int):Rat)*f _+0)=_
  have:((1:Int):Rat)=1:=rfl
  rw [this]
  grind
theorem Re{f:(Nat->Int)->Rat}(hf:IT f)(ms:List (Nat->Int))(M:Nat->Nat->Rat)(n:Nat):∀i,Dl f (Pq ms M n i)=BS i λa=>BS n λb=>M a b*f (Ba (JY ms a) (JY ms b))
 | 0=>rfl
 | i+1=>by rw [Pq,Rd hf,Re hf ms M n i,BS]
theorem TR{ms:List (Nat->Int)}(hm:∀m∈ms,In8 m 0 1){i j:Nat}(hi:i<ms.length)(hj:j<ms.length):PB [⟨((1:Int):Rat),Ba (JY ms i) (JY ms j)⟩] 1 1 2:=
 GH Yu (Dj (by omega) (by omega)) (Ll (hm _ (FW hi)) (hm _ (FW hj)))
theorem ON{ms:List (Nat->Int)}(hm:∀m∈ms,In8 m 0 1){M:Nat->Nat->Rat}(hM:∀i j,RSz (M i j) 10){P:List Tm}{n N i:Nat}(hi:i<ms.length)(hP:PB P n N 2):∀j,j<=ms.length->PB (Vp ms M i P j) (n+j) (N+12*j) 2
 | 0,_=>hP
 | j+1,h=>((ON hm hM hi hP j (by omega)).add (Jh (TR hm hi (show j<ms.length by omega)) (hM i j))).mono (by omega) (by omega) (by omega)
theorem Pp{ms:List (Nat->Int)}(hm:∀m∈ms,In8 m 0 1)(hl:ms.length<=4){M:Nat->Nat->Rat}(hM:∀i j,RSz (M i j) 10):∀i,i<=ms.length->PB (Pq ms M ms.length i) (4*i) (48*i) 2
 | 0,_=>PB.nil
 | i+1,h=>(ON hm hM (show i<ms.length by omega) (Pp hm hl hM i (by omega)) ms.length (Nat.le_refl _)).mono (by omega) (by omega) (by omega)
theorem Wu(n:Nat)(ms:List (Nat->Int))(M:Nat->Nat->Rat)(hn:n<=4)(hl:ms.length=n)(hm:∀m∈ms,In8 m 0 1)(hM:∀i j,RSz (M i j) 10):Abs Tryz.prog 15 [Js ms,BY n n M] (Bp (Pq ms M n n)):=by
 have hm4:ms.length<=4:=by omega
 refine Ab Tryz.func15 λs0=>?_
 rw [Tryz.ntmps15]
 refine Y1<|Wa<|Y0<|Y1 ?_;refine EA (Ad rfl) (Ad rfl) rfl rfl rfl rfl rfl ?_;refine Wa<|Y0<|Aa<|Y1<|Wa<|Y0<|AWp.block ?_
 refine AQ (λmz σ=>∃k,k<=n/\mz=n-k/\σ=⟨[(0,.d (Js ms)),(1,.d (BY n n M)),(5,.d (Bp (Pq ms M n k))),(6,.d (ex (.int .i64 (k:Nat))))],[]⟩) ?le ⟨0,by omega,rfl,rfl⟩ ?round
 case le=>exact Ak (by exact Yd<|Yd<|FrLe.cons rfl (Ko rfl (Be rfl))<|Yd<|FrLe.nil) (by exact HpLe.nil)
 case round=>
  rintro mz _ ⟨k,hk,rfl,rfl⟩
  by_cases hlt:k<n
  .have hkl:k<ms.length:=by omega
   have p0:=Pp hm hm4 hM k (by omega)
   refine Aa<|Y1<|Wm<|Wm ?_;refine Wq (Gb rfl hl (Ad rfl)) ?_;refine Wq Ai ?_;refine Y0<|Ct<|Ys<|Aa<|AWp.block<|Y1<|Wa<|Y0<|AWp.block ?_
   refine AQ (λmz σ=>∃j,j<=n/\mz=n-j/\σ=⟨[(0,.d (Js ms)),(1,.d (BY n n M)),(5,.d (Bp (Vp ms M k (Pq ms M n k) j))),(6,.d (ex (.int .i64 (k:Nat)))),(7,.d (ex (.int .i64 (j:Nat))))],[]⟩) ?lej ⟨0,by omega,rfl,rfl⟩ ?roundj
   case lej=>exact Ak (by exact Yd<|Yd<|Yd<|Yd<|Yd<|FrLe.nil) (by exact HpLe.nil)
   case roundj=>
    rintro mz _ ⟨j,hj,rfl,rfl⟩
    by_cases hltj:j<n
    .have hjl:j<ms.length:=by omega
     have p1:=TR hm hkl hjl
     have p2:=ON hm hM hkl p0 j (by omega)
     rw [hl] at p2
     have i1:=(hm _ (FW hkl)).mono (Int.le_refl _) (show (1:Int)<=65535 by omega)
     have i2:=(hm _ (FW hjl)).mono (Int.le_refl _) (show (1:Int)<=65535 by omega)
     have i3:=(Ll (hm _ (FW hkl)) (hm _ (FW hjl))).mono (Int.le_refl _) (show (1:Int)+1<=65535 by omega)
     have cs:=IU (M k j) [⟨((1:Int):Rat),Ba (JY ms k) (JY ms j)⟩] 10 1 (hM k j) p1.sz (p1.ex.mono (by omega) (by omega)) (by simp) (by omega)
     refine Aa<|Y1<|Wm<|Wm ?_;refine Wq (Gb rfl hl (Ad rfl)) ?_;refine Wq Ai ?_;refine Y0<|Ct<|Ys<|Aa<|AWp.block<|Aa ?_
     refine Hc (DR (e:=11) (by kernel_rfl) (K4 (K4 (K4 (AddE.keep (AddE.add (AddE.keep AddE.nil)))))) (by kernel_rfl)) [[],[],[(24,0),(25,1)],[(26,2)],[],[],[(28,4),(29,5)],[(30,6)],[(27,3),(31,7)],[(32,8)],[(23,9)],[(23,9)],[]] [[],[],[0,1],[0,1,2],[],[],[4,5],[4,5,6],[0,1,2,3,4,5,6,7],[0,1,2,3,4,5,6,7,8],[0,1,2,3,4,5,6,7,8,9],[0,1,2,3,4,5,6,7,8,9],[]] rfl (by kernel_rfl) (by kernel_rfl) (by kernel_rfl) ?_
     refine Xq Ae ?_;refine Xq Ae ?_;refine Xq (DQ (k:=k) rfl (ah rfl) (Ad rfl) (Ad rfl) rfl (by simpa using hkl)) ?_;refine Xq As ?_;refine Xq Ae ?_;refine Xq Ae ?_;refine Xq (DQ (k:=j) rfl (ah rfl) (Ad rfl) (Ad rfl) rfl (by simpa using hjl)) ?_;refine Xq As ?_;refine Xq (Af (Oi (JY ms k) (JY ms j) i1 i2 i3)) ?_;refine Xq Ae ?_;refine Xq Bd ?_;refine Xq Bd ?_;refine Xn ?_;refine ⟨_,rfl,?_⟩
     refine Sf ?_;refine Wa<|AWl.nil ?_;apply OnlyN.mk';apply Yn
     refine Dr [[],[],[],[(36,1),(37,2)],[(38,3)],[],[(39,4),(40,5)],[(41,6)],[],[],[(43,8),(44,9)],[(45,10)],[(42,7),(46,11)],[(35,0),(47,12)]] [[],[],[],[1,2],[1,2,3],[],[1,2,3,4,5],[1,2,3,4,5,6],[],[],[8,9],[8,9,10],[1,2,3,4,5,6,7,8,9,10,11],[0,1,2,3,4,5,6,7,8,9,10,11,12]] ?_
     refine Xq Ae ?_;refine Xq Ae ?_;refine Xq Ae ?_;refine Xq (AR (k:=k) rfl (ah rfl) (Ad rfl) (Ad rfl) rfl hlt) ?_;refine Xq BG ?_;refine Xq Ae ?_;refine Xq (AR (k:=j) rfl (ah rfl) (Ad rfl) (Ad rfl) rfl hltj) ?_;refine Xq As ?_;refine Xq (Af (Bv 1 (by omega) (by omega))) ?_;refine Xq Ar ?_;(refine Hq rfl ?_;refine BR (Ad rfl) rfl rfl rfl ?_;(repeat ((first | refine ⟨_,AO (ah rfl),?_⟩ | refine ⟨_,Po rfl,?_⟩);refine ⟨_,rfl,?_⟩));refine ⟨_,rfl,?_⟩;refine ⟨_,rfl,?_⟩);(refine Xq (BJ (ah rfl) (Ad rfl) (Ad rfl) rfl rfl rfl rfl rfl) ?_);refine Xq (Af (cs)) ?_;refine Xq (Af (PI p2 (Jh p1 (hM k j)) (by omega) (by omega))) ?_;refine ⟨_,rfl,?_⟩
     refine Wa<|AWl.nil<|Ah<|Yn<|AWp.region<|Wm ?_;refine Wq AH ?_;refine Wa<|AWl.nil ?_
     refine ALoop.next (n-(j+1)) (by omega) ⟨j+1,by omega,rfl,rfl⟩ ?_
     exact Ak (by exact Yd<|Yd<|Yd<|Yd<|Yd<|FrLe.nil) (by exact HpLe.nil)
    .obtain rfl:j=n:=by omega
     refine Aa<|Y1<|Wm<|Wm ?_;refine Wq (Gb rfl hl (Ad rfl)) ?_;refine Wq Aj ?_;refine Y0<|Cf<|AP<|AA<|AF<|AB<|Ah<|Yn<|AWp.region<|Wm ?_;refine Wq AH ?_;refine Wa<|AWl.nil ?_
     refine ALoop.next (j-(k+1)) (by omega) ⟨k+1,by omega,rfl,rfl⟩ ?_
     exact Ak (by exact Yd<|Yd<|Yd<|Yd<|FrLe.nil) (by exact HpLe.nil)
  .obtain rfl:k=n:=by omega
   refine Aa<|Y1<|Wm<|Wm ?_;refine Wq (Gb rfl hl (Ad rfl)) ?_;refine Wq Aj ?_;refine Y0<|Cf<|AP<|AA<|AF<|AB<|Yn<|Y1<|Wm<|Wa<|Y0<|At ?_
   exact Yf
theorem Ke(ms:List (Nat->Int))(M:Nat->Nat->Rat)(n:Nat):∀k,(Do ms M n k).length=IN M k
 | 0=>rfl
 | k+1=>by
  rw [Do,IN]
  split
  .exact Ke ms M n k
  .rw [List.length_append,Ke ms M n k]
   rfl
theorem YR(o n:Nat)(M:Nat->Nat->Rat)(hn:n<=4)(hs:∀i j,M i j=M j i)(hM:∀i j,RSz (M i j) 10)(hok:∀k,k<n->DF M n k):∃L:List Sq,L.length=IN M n/\L.length<=4/\SqB L 4 28000 5000 1/\(∀s∈L,DegN s.p 2)/\(∀s∈L,s.a.num.sign=1)/\Sim (Fu L) (Pq (oS o n) M n n)/\Abs Tryz.prog 8 [Js (oS o n),BY n n M] (CK [Iz L,ex (.int .i64 0)]):=by
 have hl:=Gv o n
 have hm:=Yx o n hn
 have hS:∀k,k<=n->EN 10 k<=3000:=λk hk=>Nat.le_trans (FE 10 (show k<=4 by omega)) (by decide)
 have hsz:∀k,k<=n->∀i j,RSz (AJ M k i j) 3000:=λk hk i j=>(Mj hM k i j).mono (hS k hk)
 have hsim:Sim (Fu (Do (oS o n) M n n)) (Pq (oS o n) M n n):=λf hf=>by
  have h1:=QW hf (oS o n) M n n
  have h2:HG (λi j=>f (Ba (JY (oS o n) i) (JY (oS o n) j))) (AJ M n) n=0:=Ex λi hi=>Ex λj hj=>by rw [Lj hs hok n (Nat.le_refl n) i hi j hj,Rat.zero_mul]
  rw [Re hf]
  rw [h2] at h1
  unfold HG at h1
  rw [<-h1]
  grind
 refine ⟨Do (oS o n) M n n,Ke _ _ _ _,Nat.le_trans (Kd _ _ _ _) hn,GB (p:=λs=>PB s.p 4 28000 1/\RSz s.a 5000) (λk hk h0=>⟨(Sn hm (hsz k (by omega) k) (hsz k (by omega) k k) h0 n (by omega)).mono (by omega) (by have:n*(3000+3000+1)<=4*(3000+3000+1):=Nat.mul_le_mul hn (Nat.le_refl _);omega) (by omega),(hsz k (by omega) k k).mono (by omega)⟩) n (Nat.le_refl n),GB (p:=λs=>DegN s.p 2) (λk hk _=>OH (A24 o n hn) _ _ n (by omega)) n (Nat.le_refl n),GB (p:=λs=>s.a.num.sign=1) (λk hk h0=>LD (hok k hk).1 h0) n (Nat.le_refl n),hsim,?_⟩
 by_cases h0:n=0
 .subst h0
  exact VV M
 .exact HD n 10 1 _ _ (by omega) (by omega) hl hm (by omega) hM (Nat.le_trans (hS n (Nat.le_refl n)) (by decide)) (λi _ j _=>hs i j) n (Nat.le_refl n) hok _ (.inl ⟨rfl,rfl⟩)
theorem YS(o n:Nat)(M:Nat->Nat->Rat)(hn:n<=4)(hs:∀i j,M i j=M j i)(hM:∀i j,RSz (M i j) 10)(hno:¬∀k,k<n->DF M n k):Abs Tryz.prog 8 [Js (oS o n),BY n n M] (CK [Iz [],ex (.int .i64 280)]):=by
 rcases Ml (DF M n) n with ho | ⟨z,hz,hz1,hz2⟩
 .exact absurd ho hno
 .have hbad:AJ M z z z<0\/AJ M z z z=0/\∃w,w<n/\(∀j,j<w->AJ M z z j=0)/\AJ M z z w≠0:=by
   by_cases hp:0<=AJ M z z z
   .rcases Ml (λj=>AJ M z z j=0) n with hj | ⟨w,hw,hw1,hw2⟩
    .exact absurd ⟨hp,λ_=>hj⟩ hz2
    .refine .inr ⟨Classical.byContradiction λhne=>hz2 ⟨hp,λe=>absurd e hne⟩,w,hw,hw1,hw2⟩
   .exact .inl (Rat.not_le.1 hp)
  exact HD n 10 1 _ _ (by omega) (by omega) (Gv o n) (Yx o n hn) (by omega) hM (Nat.le_trans (FE 10 hn) (by decide)) (λi _ j _=>hs i j) z (by omega) hz1 _ (.inr ⟨hz,rfl,hbad⟩)
def A0A(n:Nat)(M:Nat->Nat->Rat)(i j:Nat):Rat:=if i<n/\j<n then M i j else 0
theorem SI{r c:Nat}{M M':Nat->Nat->Rat}(h:∀i,i<r->∀j,j<c->M i j=M' i j):BY r c M=BY r c M':=by
 unfold BY Jl
 rw [List.map_congr_left λi hi=>by rw [List.map_congr_left λj hj=>by rw [h i (List.mem_range.1 hi) j (List.mem_range.1 hj)]]]
theorem WC(M:Nat->Nat->Rat)(i j:Nat):IP M i j=IP M j i:=by
 unfold IP
 by_cases h:j<i
 .rw [if_pos h,if_neg (by omega)]
 .rw [if_neg h]
  by_cases h':i<j
  .rw [if_pos h']
  .rw [if_neg h',show i=j by omega]
theorem A0X(T:Nat)(V:List Int)(hV:Mr8 V)(a n:Nat)(ha:a<256)(hna:a%5=n):∃M:Nat->Nat->Rat,(∀i j,M i j=M j i)/\OutZ n M/\(∀i j,RSz (M i j) 10)/\Abs Tryz.prog 5 [BF [VG T V],ex (.int .u8 (a:Nat))] (BY n n M):=by
 have hb:=A0Y T V hV a ha
 rw [hna] at hb
 refine ⟨A0A n (IP (Jt V n)),λi j=>?_,λi j h=>if_neg (by omega),λi j=>?_,?_⟩
 .unfold A0A
  rw [WC]
  by_cases h:i<n/\j<n
  .rw [if_pos h,if_pos ⟨h.2,h.1⟩]
  .rw [if_neg h,if_neg λh'=>h ⟨h'.2,h'.1⟩]
 .unfold A0A
  split
  .unfold IP
   split
   .exact QQ V _ _ _
   .exact QQ V _ _ _
  .exact (Dj (x:=0) (by decide) (by decide):RSz ((0:Int):Rat) 1).mono (by omega)
 .rw [SI (M:=IP (Jt V n)) (M':=A0A n (IP (Jt V n))) λi hi j hj=>(if_pos ⟨hi,hj⟩).symm] at hb
  exact hb
theorem XM(T:Nat)(V:List Int)(a o:Nat)(hV:Mr8 V)(ha:a<256)(ho:o<256):Abs Tryz.prog 3 [BF [VG T V],ex (.int .u8 (a:Nat)),ex (.int .u8 (o:Nat))] (ex (.bool true)):=by
 obtain ⟨n,hna⟩:∃n,a%5=n:=⟨_,rfl⟩
 have hn:n<=4:=by omega
 obtain ⟨M,hs,hz,hM,cb⟩:=A0X T V hV a n ha hna
 have cm:=VH o n ho hn
 have cg:=Nf n M hn hM hs
 have hl:=Gv o n
 have hm:=Yx o n hn
 by_cases hch:chg (Jg (EE n M) true (n+1))=0
 .obtain ⟨hok,hcnt⟩:=A1V hn hs hz hch
  rw [hch,hcnt] at cg
  obtain ⟨L,hL,hL4,hB,hdg,hsg,hsim,cgr⟩:=YR o n M hn hs hM hok
  rw [<-hL] at cg
  have cd:=Wu n (oS o n) M hn hl hm hM
  have hd:=Pp hm (by omega) hM n (by omega)
  rw [hl] at hd
  have hsum:=JN hB (by omega) L.length (Nat.le_refl _)
  rw [List.take_length] at hsum
  have csame:=Ol hsum.can hd.can hsim
  refine Ab Tryz.func3 λs0=>?_
  rw [Tryz.ntmps3]
  apply Y1;refine Bx ?_;refine Wa<|Y0<|Y1 ?_;refine Wq (Af (Ji)) ?_;refine Wa<|Y0<|Aa<|Y1<|Wm ?_;refine Wq Bl ?_;refine Y0<|Cf<|Ys<|Y1 ?_;refine Wq Ar ?_;refine Wm ?_;refine Wq (Af (cb)) ?_;refine Wa<|Y0<|Y1<|Wm<|Wm ?_;refine Wq (Bi rfl (Ad rfl)) ?_;refine Wq (Af (cm)) ?_;refine Wa<|Y0<|Y1<|Wm ?_;refine Wq (Af (cg)) ?_;refine Wm ?_;refine Wq Bd ?_;refine Wq Bd ?_;refine Wq Bd ?_;refine Wa<|Wa<|Wa<|Y0<|Y1<|Wm<|Wm ?_;refine Wq (Af (cgr)) ?_;refine Wm ?_;refine Wq Bd ?_;refine Wq Bd ?_;refine Wa<|Wa<|Y0<|Aa<|Y1<|Wm ?_;refine Wq Aj ?_;refine Y0<|Cf<|Ys<|Aa<|Y1<|Wm ?_;refine Wq Aj ?_;refine Y0<|Cf<|Ys<|Aa<|Y1<|Wm ?_;refine Wq Aj ?_;refine Wm ?_;refine Wg Ae ?_;refine Wg AN ?_;refine Wg Ae ?_;refine Wg Aj ?_;refine Wq Az ?_;refine Y0<|Cf<|Ys<|Aa<|Y1<|Wa<|Y0<|AWp.block ?_
  refine AQ (λmz σ=>∃k,k<=L.length/\mz=L.length-k/\σ=⟨[(7,.d (ex (.bool true))),(8,.d (BY n n M)),(9,.d (Js (oS o n))),(13,.d (Iz L)),(15,.d (ex (.int .i64 (k:Nat))))],[]⟩) ?le ⟨0,by omega,rfl,rfl⟩ ?round
  case le=>exact Ak (by exact Yd<|Yd<|Yd<|Yd<|Yd<|FrLe.nil) (by exact HpLe.nil)
  case round=>
   rintro mz _ ⟨k,hk,rfl,rfl⟩
   by_cases hlt:k<L.length
   .have hbk:=hB _ (Jj hlt)
    have hdl:=A0T (hdg _ (Jj hlt)) (A3i hbk.1)
    have cs:=De (Ng L k).a
    rw [hsg _ (Jj hlt)] at cs
    refine Aa<|Y1<|Wm<|Wm ?_;refine Wq AN ?_;refine Wq Ai ?_;refine Y0<|Ct<|Ys<|Aa<|AWp.block<|Y1<|Wm<|Wm ?_;refine Wq AC ?_;refine Wq Bc ?_;refine Wq CP ?_;refine Wq (Af (Pz (Ng L k).a 5000 hbk.2 (by omega))) ?_;refine Wq Bl ?_;refine Wm ?_;refine Wg Ae ?_;refine Wg Ae ?_;refine Wg AC ?_;refine Wg Bc ?_;refine Wg BG ?_;refine Wg (Af (Ti hbk.1 (by omega) (by omega) (by omega))) ?_;refine Wg Bl ?_;refine Wq Az ?_;refine Wm ?_;refine Wg Ae ?_;refine Wg Ae ?_;refine Wg AC ?_;refine Wg Bc ?_;refine Wg CP ?_;refine Wg (Af (cs)) ?_;refine Wg Aj ?_;refine Wq Az ?_;refine Wm ?_;refine Wg Ae ?_;refine Wg Ae ?_;refine Wg AC ?_;refine Wg Bc ?_;refine Wg BG ?_;refine Wg (Af (ZF (Ng L k).p (hbk.1.ex.mono (Int.le_refl _) (by omega)) (Nat.le_trans hbk.1.len (by omega)))) ?_;refine Wg Aj ?_;refine Wq Az ?_;refine Y0<|Cf<|Bw<|Ah<|Yn<|AWp.region<|Wm ?_;refine Wq AH ?_;refine Wa<|AWl.nil ?_
    refine ALoop.next (L.length-(k+1)) (by omega) ⟨k+1,by omega,rfl,rfl⟩ ?_
    exact Ak (by exact Yd<|Yd<|Yd<|Yd<|Yd<|FrLe.nil) (by exact HpLe.nil)
   .obtain rfl:k=L.length:=by omega
    refine Aa<|Y1<|Wm<|Wm ?_;refine Wq AN ?_;refine Wq Aj ?_;refine Y0<|Cf<|AP<|AA<|AF<|AB<|Yn<|Y1<|Wm ?_;refine Wq (Af (LK L 4 28000 5000 1 hB (by omega) (by omega) (by omega) (by omega) (by omega) (by omega))) ?_;refine Wm ?_;refine Wq Bd ?_;refine Wq Bd ?_;refine Wa<|Wa<|Y0<|Y1<|Wm<|Wm ?_;refine Wg Ae ?_;refine Wg Ai ?_;refine Wq AE ?_;refine Wm ?_;refine Wg Ae ?_;refine Wg Ae ?_;refine Wg Ae ?_;refine Wg (Af (cd)) ?_;refine Wg (Af (csame)) ?_;refine Wq AE ?_;refine Wa<|Y0<|At ?_
    exact Yf
 .have cgr:=YS o n M hn hs hM (A0e hn hs hz hch)
  refine Ab Tryz.func3 λs0=>?_
  rw [Tryz.ntmps3]
  apply Y1;refine Bx ?_;refine Wa<|Y0<|Y1 ?_;refine Wq (Af (Ji)) ?_;refine Wa<|Y0<|Aa<|Y1<|Wm ?_;refine Wq Bl ?_;refine Y0<|Cf<|Ys<|Y1 ?_;refine Wq Ar ?_;refine Wm ?_;refine Wq (Af (cb)) ?_;refine Wa<|Y0<|Y1<|Wm<|Wm ?_;refine Wq (Bi rfl (Ad rfl)) ?_;refine Wq (Af (cm)) ?_;refine Wa<|Y0<|Y1<|Wm ?_;refine Wq (Af (cg)) ?_;refine Wm ?_;refine Wq Bd ?_;refine Wq Bd ?_;refine Wq Bd ?_;refine Wa<|Wa<|Wa<|Y0<|Y1<|Wm<|Wm ?_;refine Wq (Af (cgr)) ?_;refine Wm ?_;refine Wq Bd ?_;refine Wq Bd ?_;refine Wa<|Wa<|Y0<|Aa<|Y1<|Wm ?_;refine Wq Aj ?_;refine Y0<|Cf<|Ys<|Aa<|Y1<|Wm ?_;refine Wq Ai ?_;refine Y0<|Ct<|Y1<|Wm<|Wm ?_;refine Wg Ae ?_;refine Wg Ai ?_;refine Wq AE ?_;refine Wm ?_;refine Wg Ae ?_;refine Wg AN ?_;refine Wg Ai ?_;refine Wq AE ?_;refine Wa<|Y0<|At<|AL ?_
  exact Yf
open Go.ChangeAt Go.Joins
theorem Iy(os:Os)(started:os.Started)(H:Type)(enc:TypeId×Value->H) :
  ReturnsInHanded {} Tryz.checked os 3 .any (Rows.squaresGramSpec.pre6 enc Tryz.prog Tryz.f3 Rows.squaresGramRow.domain false) (Rows.squaresGramSpec.post enc Tryz.prog Tryz.f3 false true false false):=by
 refine returnsInHanded_of_change (C := Tryz.checked) own started (by kernel_rfl) Tryz.func3
  (ChangeSpec.witness6 (enc:=enc) (C:=Tryz.checked) false ⟨#[],#[.agg #[.slice none 0 0],.int .u8 0,.int .u8 0],[]⟩ 8 (by kernel_rfl) (by kernel_rfl) (by kernel_rfl) (by kernel_rfl)) ?_
 intro W base args ds gs before hval0 hW hcnd _
 have Fd:∀(j:Nat) t v,Tryz.f3.params[j]? = some t->args[j]? = some v->Value.okWide Tryz.prog W .any base t v:=hval0
 have hW':=hW
 obtain ⟨p,q,hA0,hV,rfl,hfz,hnd⟩:=hW
 have hA:DataW.TrodAll enc Tryz.prog W 0 (λ_=>true) true Tryz.f3.params.toList args.toList ds p:=hA0
 rw [Tryz.params3] at hA Fd
 obtain ⟨v0,vs0,d0,ds0,p0,q0,hargs,rfl,rfl,h0,r0⟩:=trodAll_cons hA
 obtain ⟨v1,vs1,d1,ds1,p1,q1,rfl,rfl,rfl,h1,r1⟩:=trodAll_cons r0
 obtain ⟨v2,Nb,d2,ds2,p2,q2,rfl,rfl,rfl,h2,r2⟩:=trodAll_cons r1
 obtain ⟨rfl,rfl,rfl⟩:=trodAll_nil r2
 obtain rfl:args=#[v0,v1,v2]:=by cases args;simp_all
 obtain ⟨rfl,rfl⟩:=trodVars_none hV
 have k0:=h0
 have lt0:∀x∈p0,x.block<W.heap.size:=by obtain ⟨m,hm⟩:=k0;exact DataW.trod_lt m _ _ _ hm
 have k1:=h1
 have lt1:∀x∈p1,x.block<W.heap.size:=by obtain ⟨m,hm⟩:=k1;exact DataW.trod_lt m _ _ _ hm
 have k2:=h2
 have lt2:∀x∈p2,x.block<W.heap.size:=by obtain ⟨m,hm⟩:=k2;exact DataW.trod_lt m _ _ _ hm
 obtain ⟨T0,X0,hX0,e0⟩:∃T X,Mr8 X/\(BF [VG T X]).rel (GS.all W) v0:=by
  obtain ⟨cs,rfl,_⟩:=okWide_struct Tryz.underlying24 (Fd 0 24 v0 rfl rfl)
  obtain ⟨fuel,hf⟩:=h0
  obtain ⟨ds,⟨T,X,hX,rfl⟩,hg⟩:=Yq _ _ _ _ _ _ _ _ _ hf
  exact ⟨T,X,hX,hg.agg rfl λb k h=>h⟩
 obtain ⟨n1,rfl,hn1,_,hw1⟩:=open_int Tryz.underlying5 (Fd 1 5 v1 rfl rfl) h1
 obtain ⟨m1,rfl⟩:∃m:Nat,n1=(m:Int):=⟨n1.toNat,by have:=bounds_u8 hw1;omega⟩
 have e1:(ex (.int .u8 (m1:Nat))).rel (GS.all W) (.int .u8 (m1:Nat)):=rfl
 obtain ⟨n2,rfl,hn2,_,hw2⟩:=open_int Tryz.underlying5 (Fd 2 5 v2 rfl rfl) h2
 obtain ⟨m2,rfl⟩:∃m:Nat,n2=(m:Int):=⟨n2.toNat,by have:=bounds_u8 hw2;omega⟩
 have e2:(ex (.int .u8 (m2:Nat))).rel (GS.all W) (.int .u8 (m2:Nat)):=rfl
 clear hA0 hval0
 refine ((XM T0 X0 m1 m2 hX0 (by have:=bounds_u8 hw1;omega) (by have:=bounds_u8 hw2;omega)).2 (GS.all W) [v0,(.int .u8 ((m1:Nat):Int)),(.int .u8 ((m2:Nat):Int))] (Xi W) rfl (λk hk=>?_)).mono λe W' ⟨v,he,s',hw,hl,hv⟩=>?_
 .match k,hk with
  | 0,_=>exact e0
  | 1,_=>exact e1
  | 2,_=>exact e2
 obtain rfl:v = .bool true:=hv
 subst he
 have bel:Below W.heap.size W W':=hw▸hl.ext
 exact ⟨_,rfl,_,_,_,[],_,[],hW',trodAll_mk1 (shut_bool Tryz.underlying4 _),(trodAll_cons_mk (Below.trod Pf (by kernel_rfl) (of_decide_eq_true (by kernel_rfl)) k0 bel lt0) (trodAll_cons_mk (Below.trod Pf (by kernel_rfl) (of_decide_eq_true (by kernel_rfl)) k1 bel lt1) (trodAll_cons_mk (Below.trod Pf (by kernel_rfl) (of_decide_eq_true (by kernel_rfl)) k2 bel lt2) trodAll_mk0))),rfl,bel.frame _,λh=>by cases h⟩
theorem JO:Rows.squaresGramRow.holds Tryz.pinned (OpenSpec.ofChange Rows.squaresGramSpec):=
 OpenClaim.holds_of_wide 3 Tryz.f3 rfl rfl rfl rfl rfl rfl rfl ⟨rfl, rfl, rfl, rfl, rfl⟩ rfl rfl rfl rfl rfl (by kernel_rfl) Tryz.func3 (by kernel_rfl)
  (of_decide_eq_true (by kernel_rfl)) (by unfold Func.isWrapper;first | (rw [if_pos (by decide +kernel)];kernel_rfl) | (rw [if_neg (by decide +kernel)];exact ⟨rfl,rfl⟩))
  (λos started H enc _=>Iy os started H enc)
theorem squaresGram_holds:Rows.SquaresGramSaid:=JO
#print axioms squaresGram_holds
end Go.Proofs.YtnbfnoebjjdmnaaGreat
