/- Part 16. No condition. -/
import Derived.Test.YtcikkglcoeedlaaGreatDf4
import Derived.Test.YtcikkglcoeedlaaGreatDf8
set_option linter.unusedSimpArgs false
set_option linter.unusedVariables false
set_option maxRecDepth 100000
set_option maxHeartbeats 1600000
namespace Go.Proofs.YtcikkglcoeedlaaGreat
open _root_.Go.Proofs.Tryz
open Go.RowKit
variable{n b:Nat}{w p:World}
theorem A0t(a b:Nat->Int)(k n:Nat):Ji a b k (n+1)=if a k<b k then -1 else if b k<a k then 1 else Ji a b (k+1) n:=by
 have e:Mp a b k=a k-b k:=rfl;have q:a k<b k↔Mp a b k<0:=by rw[e];omega
 have A:b k<a k↔0<Mp a b k:=by rw[e];omega
 rw[LQ,LQ,EH];simp only[q,A];generalize Mp a b k=d;by_cases h:d=0
 .subst h;simp
 .rw [Yai h]
  by_cases K:d<0
  .simp [K]
  .simp [K,show 0<d by omega]
theorem A3I(a b:Nat->Int)(w:World) :
  Calls prog 229 #[.agg #[.int .i64 (a 0),.int .i64 (a 1),.int .i64 (a 2),.int .i64 (a 3),.int .i64 (a 4),.int .i64 (a 5),.int .i64 (a 6),.int .i64 (a 7)],.agg #[.int .i64 (b 0),.int .i64 (b 1),.int .i64 (b 2),.int .i64 (b 3),.int .i64 (b 4),.int .i64 (b 5),.int .i64 (b 6),.int .i64 (b 7)]] w λe M=>e=.returned (.int .i64 (Ih a b))/\Ext w M:=by
 go_enter func229,ntmps229;go_wp2;go_loopw [5] (λi wr=>∃k:Nat,k<=8/\i=.int .i64 k/\Hid (Ih a b=Ji a b k (8-k)/\Blk wr w.heap.size 112 (c8 a)/\Blk wr (w.heap.size+1) 112 (c8 b)/\Ext w wr)) (λi _=>8-(intOf i).toNat)
 case atStart=>exact⟨0,by omega,rfl,rfl,(Blk.new _ _ _).alloc _,EQ _ _ ZbV,((Ext.refl _).alloc _).alloc _⟩
 case round=>
  obtain⟨k,B,rfl,W⟩:=hrel;by_cases O:k<8
  .have C:decide ((k:Int)<8)=true:=ZiB
   have H:=W.out.2.1.at8 O;have P:=W.out.2.2.1.at8 O;have Z:Hid (Ji a b k (8-k)=if a k<b k then -1 else if b k<a k then 1 else Ji a b (k+1) (8-(k+1))):=by rw[show 8-k=(8-(k+1))+1 by omega];exact A0t a b k _
   generalize a k=x at *;generalize b k=y at *;by_cases q:x<y
   .have h:=Z.out
    rw[Yan q]at h;replace h:=Af h;clear Z;go_wp2;go_quiet (fail);go_wp2;go_ret;exact⟨by rw[W.out.1,h.out];rfl,W.out.2.2.2.drewN _⟩
   .by_cases A:y<x
    .have h:=Z.out
     rw[Yai q,Yan A]at h;replace h:=Af h;clear Z;go_wp2;go_quiet (fail);go_wp2;go_quiet (fail);go_wp2;go_ret;exact⟨by rw[W.out.1,h.out];rfl,(W.out.2.2.2.drewN _).drewN _⟩
    .have h:=Z.out
     rw[Yai q,Yai A]at h;replace h:=Af h;clear Z;go_wp2;go_quiet (fail);go_wp2;go_quiet (fail);go_wp2;exact⟨⟨k+1,O,by simp,by rw[W.out.1,h.out],W.out.2.1,W.out.2.2.1,W.out.2.2.2.drewN _⟩,by simp[intOf];omega⟩
  .obtain rfl:k=8:=by omega
   have C:decide (((8:Nat):Int)<8)=false:=by simp
   go_wp2;go_ret;exact⟨by rw[W.out.1];rfl,W.out.2.2.2⟩
theorem A6p(w:World):Calls prog 129 #[] w (NQ [] w):=by
 go_enter func129,ntmps129;go_wp2;go_ret;exact⟨_,_,rfl,OwnRows.blk (R:=[]) (Yah _) (Blk.new _ _ _) rfl ZbV,(Ext.refl _).alloc _⟩
theorem A7i:(rl [BW 255]).toArray=#[.int .i64 1,.int .i64 1,.int .i64 1,.int .i64 1,.int .i64 1,.int .i64 1,.int .i64 1,.int .i64 1]:=rfl
theorem Qg(w:World):Calls prog 130 #[] w (NQ [BW 255] w):=by
 go_enter func130,ntmps130;go_wp2;go_ret;exact⟨_,_,rfl,OwnRows.blk (R:=[BW 255]) (Yah _) (by rw[A7i];exact Blk.new _ _ _) rfl ZbV,(Ext.refl _).alloc _⟩
theorem A3E(i:Nat)(n:Int)(w:World)(J:i<8) :
  Calls prog 231 #[.int .i64 i,.int .i64 n] w λe M=>e=.returned (.agg #[.int .i64 (KP i n 0),.int .i64 (KP i n 1),.int .i64 (KP i n 2),.int .i64 (KP i n 3),.int .i64 (KP i n 4),.int .i64 (KP i n 5),.int .i64 (KP i n 6),.int .i64 (KP i n 7)])/\Ext w M:=by
 rcases lt8 J with rfl | rfl | rfl | rfl | rfl | rfl | rfl | rfl
 all_goals
  go_enter func231,ntmps231;go_wp2;refine bodyPost_ret (v:=.agg (c8 (KP _ n))) ?_ rfl ⟨rfl,?_⟩
  .simp [results,Tryz.results231,go_sem,KP,c8]
  .exact ((Ext.refl _).alloc _).alloc _
theorem A2Z(k:Nat):KP k (-1)=Ea k:=rfl
theorem NR(w:World):Calls prog 131 #[] w (NQ revRows w):=by
 go_enter func131,ntmps131;go_wp2_with fail;refine(Qg _).mono ?_;rintro e g ⟨O,X,rfl,Q,L⟩;replace Q:=Af Q;replace L:=Af L;go_wp2;go_loopw [1,2] (λv i wr=>∃(k:Nat) (R:List (Nat->Int)) (A:Option Addr) (c:Nat),k<=7/\i=.int .i64 k/\v=.slice A R.length c/\Hid (R++Gf k=revRows/\OwnRows 36 w.heap.size wr (.slice A R.length c) R/\Ext w wr)) (λ_ i _=>(intOf i).toNat)
 case atStart=>exact⟨7,[BW 255],_,_,by omega,rfl,rfl,rfl,Q.out,L.out⟩
 case round=>
  obtain⟨k,R,A,c,B,rfl,rfl,W⟩:=hrel;clear Q L
  match k,B,W with
  |0,B,W=>
   have e:R=revRows:=by have:=W.out.1;rwa [Gf,YbC]at this
   subst e;go_wp2;go_ret;exact⟨A,c,rfl,W.out.2.1,W.out.2.2⟩
  |k+1,B,W=>
   have q:Hid (R++[Ea (k+1)]++Gf k=revRows):=by have:=W.out.1;rw[Gf]at this;rw[<-this];show _++_++_=_;rw[Yaf];rfl
   have I:R.length<=8:=by have:=congrArg List.length W.out.1;rw[IA,Yaa,Iz]at this;omega
   have N:decide (0<k+1)=true:=by simp
   have J:((k+1:Nat):Int)-1=k:=by omega
   obtain⟨n,h⟩:∃n,n=k+1:=⟨_,rfl⟩;have S:n<8:=by omega
   have V:0<n:=by omega
   rw[<-h]at q N J ⊢;replace h:=Af h;replace J:=Af J;go_wp2_with fail;refine(A3E n (-1) _ S).mono ?_;rintro e F ⟨rfl,P⟩;rw[A2Z]at *
   obtain⟨K,C,M,E,G,T⟩:=NK (base:=w.heap.size) (w:=F.alloc (.cells #[.int .i64 (Ea n 0),.int .i64 (Ea n 1),.int .i64 (Ea n 2),.int .i64 (Ea n 3),.int .i64 (Ea n 4),.int .i64 (Ea n 5),.int .i64 (Ea n 6),.int .i64 (Ea n 7)] 36)) (S:=[Ea n]) (x:=.slice (some ⟨F.heap.size,0,none⟩) 1 1)
    ((W.out.2.1.ext P).ext ((Ext.refl _).alloc _)) (OwnRows.blk (R:=[Ea n]) (c:=1) (base:=0) (g:=F.heap.size) (Yaw _) (Blk.new _ _ _) rfl ZbV).rows ZbV ZiB (by have:=W.out.2.2.size;have:=P.size;simp;omega)
   have l:Hid (Ext w M):=((W.out.2.2.trans P).alloc _).grown' T W.out.2.1.base_le;replace E:=Af E;replace G:=Af G;clear T;go_wp2_with (at_builtin;go_loud (refine GI rfl _ _ _ rfl _ _ rfl rfl E.out ?_));exact⟨⟨k,R++[Ea n],K,C,by omega,by rw[J.out],by simp,q.out,by simpa using G.out,l.out⟩,by have:=h.out;simp[intOf];omega⟩
def OwnV(base:Nat)(v:Value)(w:World)(R:List (Nat->Int)):Prop:=∃A c,v=.slice A R.length c/\OwnRows 36 base w (.slice A R.length c) R
theorem OwnV.ext{base:Nat}{v:Value}{R:List (Nat->Int)}(h:OwnV base v w R)(a:Ext w p):OwnV base v p R:=by
 obtain⟨A,c,q,B⟩:=h;exact⟨A,c,q,B.ext a⟩
theorem Blk.skip8{t:TypeId}{a:Nat->Int}(h:Blk w n t (Go.Proofs.YtcikkglcoeedlaaGreat.c8 (Tz a b)))(u:a b=0):Blk w n t (Go.Proofs.YtcikkglcoeedlaaGreat.c8 (Tz a (b+1))):=by
 rw[NI (b:=Tz a b) λi _=>?_]
 .exact h
 .by_cases q:i<b
  .rw [Kd q,Kd ZbG]
  .rw [Qx q]
   by_cases A:i=b
   .rw [A,Kd ZbG,u]
   .rw [Qx ZbG]
theorem Pr(m:Nat)(w:World)(x:m<256):Calls prog 132 #[.int .u8 m] w (NQ (BW m::revRows) w):=by
 go_enter func132,ntmps132;go_wp2;go_loopw [4] (λi wr=>∃k:Nat,k<=8/\i=.int .i64 k/\Hid (Blk wr w.heap.size 36 (c8 (Tz (BW m) k))/\Ext w wr)) (λi _=>8-(intOf i).toNat)
 case atStart=>exact⟨0,by omega,rfl,Blk.new _ _ _,(Ext.refl _).alloc _⟩
 case round=>
  obtain⟨k,B,rfl,W⟩:=hrel;by_cases O:k<8
  .have xg:decide ((k:Int)<8)=true:=ZiB
   go_wp2_with fail;refine(Aag m k _ x O).mono ?_;rintro e _ ⟨rfl,rfl⟩;have xc:=Af (A0h (m:=m) (i:=k))
   cases E:m.testBit k with
   |true=>
    have q:Hid (BW m k=1):=by rw[xc.out,E];rfl
    have f:=W.out.1.at8 O;have P:=W.out.1.frozen k;replace E:=Af E;clear xc;go_wp2;exact⟨⟨k+1,O,by simp,W.out.1.up8 O q.out.symm,W.out.2.set (p:=⟨w.heap.size,k,none⟩) (Yah _) _⟩,by simp[intOf];omega⟩
   |false=>
    have q:Hid (BW m k=0):=by rw[xc.out,E];rfl
    replace E:=Af E;clear xc;go_wp2;exact⟨⟨k+1,O,by simp,W.out.1.skip8 q.out,W.out.2⟩,by simp[intOf];omega⟩
  .obtain rfl:k=8:=by omega
   have d:=Af W.out.1.full8;have u:=Af W.out.2;clear W;have xg:decide (((8:Nat):Int)<8)=false:=by simp
   go_upto_region 7 with(fail)
   obtain⟨U,H⟩:∃U,U=w.heap.size:=⟨_,rfl⟩;rw[<-H]at d ⊢;replace H:=Af H
   refine wp_region_v ZbK [[], [(15, 0)], []] [[], [0], []]
    [λv _=>v=.agg #[.int .i64 (BW m 0),.int .i64 (BW m 1),.int .i64 (BW m 2),.int .i64 (BW m 3),.int .i64 (BW m 4),.int .i64 (BW m 5),.int .i64 (BW m 6),.int .i64 (BW m 7)],λv M=>OwnV w.heap.size v M [BW m],λv M=>OwnV w.heap.size v M revRows]
    rfl ZbK ZbK ?stab ?steps ?fin
   case stab=>exact .cons (Stab.eq _) (.cons (λ_ _ _ a h=>h.ext a) (.cons (λ_ _ _ a h=>h.ext a) .nil))
   case steps=>
    refine .cons ?s0 (.cons ?s1 (.cons ?s2 .nil))
    case s0=>
     intro M C Q B l F p;have J:C (.tmp 3)=.pointer (some ⟨U,0,none⟩):=l 3 ZbL;have X:M.cell? ⟨U,0,none⟩=some (.int .i64 (BW m 0)):=Q.cellv (d.out.cell 0);have K:M.cell? ⟨U,1,none⟩=some (.int .i64 (BW m 1)):=Q.cellv (d.out.cell 1);have I:M.cell? ⟨U,2,none⟩=some (.int .i64 (BW m 2)):=Q.cellv (d.out.cell 2);have V:M.cell? ⟨U,3,none⟩=some (.int .i64 (BW m 3)):=Q.cellv (d.out.cell 3);have Z:M.cell? ⟨U,4,none⟩=some (.int .i64 (BW m 4)):=Q.cellv (d.out.cell 4);have s:M.cell? ⟨U,5,none⟩=some (.int .i64 (BW m 5)):=Q.cellv (d.out.cell 5);have z:M.cell? ⟨U,6,none⟩=some (.int .i64 (BW m 6)):=Q.cellv (d.out.cell 6);have R:M.cell? ⟨U,7,none⟩=some (.int .i64 (BW m 7)):=Q.cellv (d.out.cell 7);exact AB (by simp[execOp,J,X,K,I,V,Z,s,z,R,go_sem]) rfl
    case s1=>
     intro M C Q B l F p;have xa:C (.tmp 15)=.agg #[.int .i64 (BW m 0),.int .i64 (BW m 1),.int .i64 (BW m 2),.int .i64 (BW m 3),.int .i64 (BW m 4),.int .i64 (BW m 5),.int .i64 (BW m 6),.int .i64 (BW m 7)]:=B.1 _ rfl;exact XO (by simp[execOp,xa,go_sem]) ((Ext.refl _).alloc _) ⟨_,_,rfl,OwnRows.blk (w:=M.alloc (.cells #[.int .i64 (BW m 0),.int .i64 (BW m 1),.int .i64 (BW m 2),.int .i64 (BW m 3),.int .i64 (BW m 4),.int .i64 (BW m 5),.int .i64 (BW m 6),.int .i64 (BW m 7)] 36)) (R:=[BW m]) (Yat u.out.size Q.size) (Blk.new _ _ _) rfl ZbV⟩
    case s2=>
     intro M C Q B l F p;refine Cz (by simp[execOp,resolve,invoke,p,go_sem]) (NR _) ?_;rintro e g ⟨A,c,rfl,Y,S⟩;exact⟨_,rfl,S,⟨A,c,rfl,Y.base_mono (Yat u.out.size Q.size)⟩⟩
   case fin=>
    intro gf M Q hF;have f1:=hF 1 _ rfl;have f2:=hF 2 _ rfl;obtain⟨j,K,b,xb⟩:=f1;obtain⟨o,I,y,xe⟩:=f2;simp only[Yay,Ybk,Nat.reduceAdd,Ybf,YaP,Ybe,YbR,Fw,Act.put,YaW,Ybw,YbD,b,y];replace Q:=(Ext.refl wr).drew.trans Q;have t:=Q.size;have xf:=u.out.size;obtain⟨N,G,L,n,xd,T⟩:=NK (base:=w.heap.size) (w:=M) (v:=.slice j 1 K) (R:=[BW m]) (S:=revRows) (x:=.slice o revRows.length I) xb xe.rows (by rw[IA];omega) (by rw[IA];simp) ZbG;have r:Hid (Ext w L):=(u.out.trans Q).grown' T xb.base_le;replace n:=Af n;replace xd:=Af xd;replace xb:=Af xb;replace xe:=Af xe;replace Q:=Af Q;clear T hF b y;go_wp2_with (at_builtin;go_loud (refine GI rfl _ _ _ rfl _ _ rfl rfl n.out ?_));go_ret;refine⟨N,G,?_,?_,r.out⟩
    .rw [Yay,Yda];rfl
    .have:=xd.out;rw[Yay,Yda];exact this
