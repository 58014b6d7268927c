/- Part 9 of the proof of squaresGram_holds. No condition. -/
import Derived.Great.BuildSlice
import Derived.Test.YtnbfnoebjjdmnaaGreatGm4
import Derived.Test.YtnbfnoebjjdmnaaGreatGm8
set_option linter.unusedSimpArgs false
set_option linter.unusedVariables false
set_option maxRecDepth 100000
set_option maxHeartbeats 1600000
namespace Go.Proofs.YtnbfnoebjjdmnaaGreat
open Go.RowKit
def RatV(w:World)(v:Value)(q:Rat):Prop:=∃(b b':Bool) (A A':Option Addr) (m c m' c':Nat),v = .agg #[.bool b,.slice A m c,.bool b',.slice A' m' c']/\IsRat w (.bool b) (.slice A m c) (.bool b') (.slice A' m' c') q
theorem RatV.ext{w w':World}{v:Value}{q:Rat}(h:RatV w v q)(he:Ext w w'):RatV w' v q:=by
 obtain ⟨b,b',A,A',m,c,m',c',h1,h2⟩:=h
 exact ⟨b,b',A,A',m,c,m',c',h1,h2.ext he⟩
theorem IsRat.kept{w w':World}{row:Option Nat}{c0 c1 c2 c3:Value}{q:Rat}(h:IsRat w c0 c1 c2 c3 q)(hg:w.grownBy w' row)(ht:∀b,row=some b->¬Ty w b 108):IsRat w' c0 c1 c2 c3 q:=by
 have key:∀v l,Words w v l->Words w' v l:=λv l hv=>by
  obtain ⟨A,c,h1,h2,h3,h4,h5⟩:=hv
  refine ⟨A,c,h1,h2,h3,h4,λhp=>?_⟩
  obtain ⟨b,o,cs,fz,h6,h7,h8⟩:=h5 hp
  exact ⟨b,o,cs,fz,h6,(hg.block b (AU h7) λe=>ht b e.symm ⟨cs,fz,h7⟩).trans h7,h8⟩
 exact ⟨⟨h.1.1,key _ _ h.1.2⟩,⟨h.2.1,key _ _ h.2.2⟩⟩
theorem RatV.kept{w w':World}{row:Option Nat}{v:Value}{q:Rat}(h:RatV w v q)(hg:w.grownBy w' row)(ht:∀b,row=some b->¬Ty w b 108):RatV w' v q:=by
 obtain ⟨b,b',A,A',m,c,m',c',h1,h2⟩:=h
 exact ⟨b,b',A,A',m,c,m',c',h1,h2.kept hg ht⟩
def tmc(b b':Bool)(A A':Option Addr)(n c n' c':Nat)(a:Nat->Int):Array Value:=#[.bool b,.slice A n c,.bool b',.slice A' n' c',.int .i64 (a 0),.int .i64 (a 1),.int .i64 (a 2),.int .i64 (a 3),.int .i64 (a 4),.int .i64 (a 5),.int .i64 (a 6),.int .i64 (a 7)]
def TmV(w:World)(cs:Array Value)(t:Tm):Prop:=∃(b b':Bool) (A A':Option Addr) (n c n' c':Nat),cs=tmc b b' A A' n c n' c' t.m/\IsRat w (.bool b) (.slice A n c) (.bool b') (.slice A' n' c') t.c
theorem TmV.ext{w w':World}{cs:Array Value}{t:Tm}(h:TmV w cs t)(he:Ext w w'):TmV w' cs t:=by
 obtain ⟨b,b',A,A',m,c,m',c',h1,h2⟩:=h
 exact ⟨b,b',A,A',m,c,m',c',h1,h2.ext he⟩
theorem TmV.kept{w w':World}{row:Option Nat}{cs:Array Value}{t:Tm}(h:TmV w cs t)(hg:w.grownBy w' row)(ht:∀b,row=some b->¬Ty w b 108):TmV w' cs t:=by
 obtain ⟨b,b',A,A',m,c,m',c',h1,h2⟩:=h
 exact ⟨b,b',A,A',m,c,m',c',h1,h2.kept hg ht⟩
theorem TmV.size{w:World}{cs:Array Value}{t:Tm}(h:TmV w cs t):cs.size=12:=by
 obtain ⟨b,b',A,A',m,c,m',c',rfl,_⟩:=h
 rfl
theorem TmV.one{w:World}{cs:Array Value}{t:Tm}(h:TmV w cs t):∀u∈cs.toList,u.oneCell'=true:=by
 obtain ⟨b,b',A,A',m,c,m',c',rfl,_⟩:=h
 intro u hu
 simp [tmc] at hu
 rcases hu with rfl | rfl | rfl | rfl | rfl | rfl | rfl | rfl | rfl | rfl | rfl | rfl<;>rfl
def AZ(P:List Tm)(k:Nat):Tm:=P.getD k default
theorem CY{P:List Tm}{k:Nat}(h:k<P.length):AZ P k∈P:=by
 unfold AZ
 rw [List.getD_eq_getElem?_getD,List.getElem?_eq_getElem h]
 exact List.getElem_mem h
theorem HJ{P:List Tm}{k:Nat}(h:k<P.length):P.drop k=AZ P k::P.drop (k+1):=by
 unfold AZ
 rw [List.getD_eq_getElem?_getD,List.getElem?_eq_getElem h,List.drop_eq_getElem_cons h]
 rfl
theorem Ft{P:List Tm}{k:Nat}(h:k<P.length):P.take k++[AZ P k]=P.take (k+1):=by
 rw [List.take_succ_eq_append_getElem h]
 simp [AZ,List.getD_eq_getElem?_getD,List.getElem?_eq_getElem h]
def PolAt(w:World)(v:Value)(P:List Tm):Prop:=
 ∃(A:Option Addr) (c:Nat),v = .slice A P.length c/\P.length<=c/\c<=9223372036854775807 /\
  (0<P.length->∃(b o:Nat) (cs:Array Value) (fz:Nat×Nat),A=some ⟨b,o,none⟩/\w.heap[b]? = some (.cells cs 81 fz)/\∀k,k<P.length->∃ts,TmV w ts (AZ P k)/\∀j,j<12->cs[o+k*12+j]? = ts[j]?)
theorem PolAt.ext{w w':World}{v:Value}{P:List Tm}(h:PolAt w v P)(he:Ext w w'):PolAt w' v P:=by
 obtain ⟨A,c,h1,h2,h3,h4⟩:=h
 refine ⟨A,c,h1,h2,h3,λhp=>?_⟩
 obtain ⟨b,o,cs,fz,h5,h6,h7⟩:=h4 hp
 refine ⟨b,o,cs,fz,h5,(he.block (AU h6)).trans h6,λk hk=>?_⟩
 obtain ⟨ts,h8,h9⟩:=h7 k hk
 exact ⟨ts,h8.ext he,h9⟩
theorem PolAt.nil(w:World):PolAt w (.slice none 0 0) []:=⟨none,0,rfl,by simp,by omega,λh=>absurd h (by simp)⟩
theorem PolAt.term{w:World}{A:Option Addr}{n c:Nat}{P:List Tm}(h:PolAt w (.slice A n c) P){k:Nat}(hk:k<P.length) :
  n=P.length/\n<=c/\c<=9223372036854775807/\∃(g o:Nat) (b b':Bool) (X X':Option Addr) (n1 c1 n2 c2:Nat),A=some ⟨g,o,none⟩/\g<w.heap.size/\(∀j,j<12->w.cell? ⟨g,o+k*12+j,none⟩=(tmc b b' X X' n1 c1 n2 c2 (AZ P k).m)[j]?)/\IsRat w (.bool b) (.slice X n1 c1) (.bool b') (.slice X' n2 c2) (AZ P k).c:=by
 obtain ⟨A',c',h1,h2,h3,h4⟩:=h
 injection h1 with e1 e2 e3
 subst e1;subst e2;subst e3
 obtain ⟨b,o,cs,fz,h5,h6,h7⟩:=h4 (by omega)
 obtain ⟨ts,⟨b1,b1',X,X',n1,c1,n2,c2,rfl,h8⟩,h9⟩:=h7 k hk
 exact ⟨rfl,h2,h3,b,o,b1,b1',X,X',n1,c1,n2,c2,h5,AU h6,λj hj=>(BK h6).trans (h9 j hj),h8⟩
theorem Kf:∀{cl:List (Array Value)},(∀i,i<cl.length->(cl.getD i #[]).size=12)->(cl.flatMap Array.toList).length=cl.length*12
 | [],_=>rfl
 | a::cl,h=>by
  have h0:=h 0 (by simp)
  have:=Kf (cl:=cl) λi hi=>by have:=h (i+1) (by simp;omega);simpa using this
  simp at h0 this ⊢
  omega
theorem Pg:∀{cl:List (Array Value)},(∀i,i<cl.length->(cl.getD i #[]).size=12)->∀i j,i<cl.length->j<12->(cl.flatMap Array.toList)[i*12+j]? = (cl.getD i #[])[j]?
 | [],_,i,j,hi,_=>by simp at hi
 | a::cl,h,i,j,hi,hj=>by
  have h0:a.size=12:=h 0 (by simp)
  rw [List.flatMap_cons]
  match i with
  | 0=>
   rw [Nat.zero_mul,Nat.zero_add,List.getElem?_append_left (by simpa [h0] using hj)]
   simp
  | i+1=>
   rw [List.getElem?_append_right (by simp [h0];omega)]
   have:=Pg (cl:=cl) (λi hi=>by have:=h (i+1) (by simp;omega);simpa using this) i j (by simpa using hi) hj
   rw [show (i+1)*12+j-a.toList.length=i*12+j by simp [h0];omega,this]
   simp
def OwnP(base:Nat)(w:World)(v:Value)(P:List Tm):Prop:=∃cl:List (Array Value),cl.length=P.length/\w.ownsRow base 81 12 v P.length (cl.flatMap Array.toList)/\∀i,i<P.length->TmV w (cl.getD i #[]) (AZ P i)
theorem OwnP.nil(base:Nat)(w:World):OwnP base w (.slice none 0 0) []:=⟨[],rfl,⟨rfl,.inl ⟨rfl,rfl⟩⟩,λi h=>absurd h (by simp)⟩
theorem OwnP.ext{base:Nat}{w w':World}{v:Value}{P:List Tm}(h:OwnP base w v P)(he:Ext w w'):OwnP base w' v P:=by
 obtain ⟨cl,h1,⟨h2,h3⟩,h4⟩:=h
 refine ⟨cl,h1,⟨h2,?_⟩,λi hi=>(h4 i hi).ext he⟩
 rcases h3 with h3 | ⟨g,cap,cur,h5,h6,hg,h7⟩
 .exact .inl h3
 .exact .inr ⟨g,cap,cur,h5,h6,(he.block (AU hg)).trans hg,h7⟩
theorem OwnP.form{base:Nat}{w:World}{v:Value}{P:List Tm}(h:OwnP base w v P):∃A c,v = .slice A P.length c:=by
 obtain ⟨_,_,⟨_,h2⟩,_⟩:=h
 rcases h2 with ⟨rfl,h0⟩ | ⟨g,cap,cur,rfl,_⟩
 .exact ⟨none,0,by rw [h0]⟩
 .exact ⟨_,_,rfl⟩
theorem OwnP.base_le{base:Nat}{w:World}{v:Value}{P:List Tm}(h:OwnP base w v P):∀k,v.ownBlock=some k->base<=k:=by
 intro k hk
 obtain ⟨_,_,⟨_,h2⟩,_⟩:=h
 rcases h2 with ⟨rfl,_⟩ | ⟨g,cap,cur,rfl,h4,_⟩
 .cases hk
 .cases hk;exact h4
theorem OwnP.base_mono{base base':Nat}{w:World}{v:Value}{P:List Tm}(h:OwnP base w v P)(hb:base'<=base):OwnP base' w v P:=by
 obtain ⟨cl,h1,⟨h2,h3⟩,h4⟩:=h
 refine ⟨cl,h1,⟨h2,?_⟩,h4⟩
 rcases h3 with h3 | ⟨g,cap,cur,h5,h6,hg,h7⟩
 .exact .inl h3
 .exact .inr ⟨g,cap,cur,h5,Nat.le_trans hb h6,hg,h7⟩
theorem OwnP.ty{base:Nat}{w:World}{v:Value}{P:List Tm}(h:OwnP base w v P):∀k,v.ownBlock=some k->Ty w k 81:=by
 intro k hk
 obtain ⟨_,_,⟨_,h2⟩,_⟩:=h
 rcases h2 with ⟨rfl,_⟩ | ⟨g,cap,cur,rfl,h4,hg,_⟩
 .cases hk
 .cases hk;exact ⟨_,_,hg⟩
theorem OwnP.notU{base:Nat}{w:World}{v:Value}{P:List Tm}(h:OwnP base w v P):∀k,v.ownBlock=some k->¬Ty w k 108:=λk hk hu=>by
 obtain ⟨_,_,h1⟩:=h.ty k hk
 obtain ⟨_,_,h2⟩:=hu
 rw [h1] at h2
 cases h2
theorem OwnP.pol{base:Nat}{w:World}{v:Value}{P:List Tm}(h:OwnP base w v P):PolAt w v P:=by
 obtain ⟨cl,h1,⟨h2,h3⟩,h4⟩:=h
 have hsz:∀i,i<cl.length->(cl.getD i #[]).size=12:=λi hi=>(h4 i (by omega)).size
 rcases h3 with ⟨rfl,h0⟩ | ⟨g,cap,cur,rfl,_,hg,hc,hm,hsz',ht⟩
 .exact ⟨none,0,by rw [h0],by omega,by omega,λhp=>by omega⟩
 .refine ⟨_, _, rfl, hc, by simpa [maxLen] using hm, λ_=>⟨g, 0, cur, _, rfl, hg, λk hk=>⟨_, h4 k hk, λj hj=>?_⟩⟩⟩
  rw [Nat.zero_add,<-Pg hsz k j (by omega) hj,<-ht,List.getElem?_take,if_pos (by omega)]
  simp
theorem Ro{base:Nat}{w:World}{v:Value}{P:List Tm}{g:Nat}{cs:Array Value}{t:Tm}(h:OwnP base w v P)(hb:Blk w g 81 cs)(hr:TmV w cs t)(hbs:base<=w.heap.size)(hl:P.length<=1000000) :
  ∃A c w',(Builtin.append_ #[44,44] 44 #[v,.slice (some ⟨g,0,none⟩) 1 1]).run Tryz.prog w = .ok (.slice A (P.length+1) c) w'/\OwnP base w' (.slice A (P.length+1) c) (P++[t])/\w.grownBy w' v.ownBlock:=by
 obtain ⟨i,hi,hz0,hz1,hz2⟩:=info_parts (show (Tryz.prog.info? 81).map (λi=>(i.zero,i.size,i.bytes))=some (some (.agg #[.bool false,.slice none 0 0,.bool false,.slice none 0 0,.int .i64 0,.int .i64 0,.int .i64 0,.int .i64 0,.int .i64 0,.int .i64 0,.int .i64 0,.int .i64 0]),12,128) by kernel_rfl)
 have hk:=h.notU
 obtain ⟨cl,h1,h2,h3⟩:=h
 obtain ⟨v', w', hrun, hown, hg, _⟩ := run_append_own (P := Tryz.prog) w base 44 44 81 i _ 12 128 Tryz.underlying44 hi hz0 hz1 hz2 rfl (by omega)
  v P.length (cl.flatMap Array.toList) h2 ⟨g,0,none⟩ 1 1 cs.toList (by simp [hr.size]) (λj u hu=>by rw [Tb,Nat.zero_add,hb.cell,<-Array.getElem?_toList];exact hu) hr.one (by simp only [maxLen];omega) (by omega) hbs
 have hO:OwnP base w' v' (P++[t]):=by
  refine ⟨cl++[cs],by simp [h1],?_,λj hj=>?_⟩
  .rw [List.flatMap_append,List.length_append]
   simpa using hown
  .simp only [List.length_append,List.length_cons,List.length_nil] at hj
   by_cases e:j=P.length
   .have e1:AZ (P++[t]) j=t:=by unfold AZ; rw [e]; simp
    have e2:(cl++[cs]).getD j #[]=cs:=by rw [e,<-h1];simp
    rw [e1,e2]
    exact hr.kept hg hk
   .have e1:AZ (P++[t]) j=AZ P j:=by
     unfold AZ
     rw [List.getD_eq_getElem?_getD,List.getElem?_append_left (by omega),<-List.getD_eq_getElem?_getD]
    have e2:(cl++[cs]).getD j #[]=cl.getD j #[]:=by rw [List.getD_eq_getElem?_getD,List.getElem?_append_left (by omega),<-List.getD_eq_getElem?_getD]
    rw [e1,e2]
    exact (h3 j (by omega)).kept hg hk
 obtain ⟨A,c,rfl⟩:=hO.form
 have el:(P++[t]).length=P.length+1:=by simp
 rw [el] at hrun hO
 exact ⟨A,c,w',hrun,hO,hg⟩
def A17(P:List Tm)(w:World)(e:Ending)(w':World):Prop:=∃(A:Option Addr) (c:Nat),e = .returned (.slice A P.length c)/\OwnP w.heap.size w' (.slice A P.length c) P/\Ext w w'
def Zw(n:Int)(P:List Tm)(w:World)(e:Ending)(w':World):Prop:=∃(A:Option Addr) (c:Nat),e = .returned (.tuple #[.slice A P.length c,.int .i64 n])/\OwnP w.heap.size w' (.slice A P.length c) P/\Ext w w'
def PSz(P:List Tm)(N:Nat):Prop:=∀t∈P,RSz t.c N
theorem PSz.mono{P:List Tm}{N M:Nat}(h:PSz P N)(hm:N<=M):PSz P M:=λt ht=>(h t ht).mono hm
def PIn(P:List Tm)(lo hi:Int):Prop:=∀t∈P,In8 t.m lo hi
theorem PIn.mono{P:List Tm}{a b c d:Int}(h:PIn P a b)(h1:c<=a)(h2:b<=d):PIn P c d:=λt ht=>(h t ht).mono h1 h2
theorem YY{x y:Nat}(h:Am x=Am y):x=y:=by rw [<-Ao x,<-Ao y,h]
theorem Oh(b b':Bool)(A A':Option Addr)(n c n' c':Nat)(x y:Int)(w:World)(h:IsInt w (.bool b) (.slice A n c) x)(h':IsInt w (.bool b') (.slice A' n' c') y) :
  Calls Tryz.prog 90 #[.agg #[.bool b,.slice A n c],.agg #[.bool b',.slice A' n' c']] w λe w'=>e = .returned (.bool (decide (x=y)))/\Ext w w':=by
 have hb2:Hid (Blk ((w.alloc (.cells #[.bool b,.slice A n c] 40)).alloc (.cells #[.bool b',.slice A' n' c'] 40)) w.heap.size 40 #[.bool b,.slice A n c]):=(Blk.new _ _ _).alloc _
 have hb3:Hid (Blk ((w.alloc (.cells #[.bool b,.slice A n c] 40)).alloc (.cells #[.bool b',.slice A' n' c'] 40)) (w.heap.size+1) 40 #[.bool b',.slice A' n' c']):=AW _ _ (by simp)
 have hE:Hid (Ext w ((w.alloc (.cells #[.bool b,.slice A n c] 40)).alloc (.cells #[.bool b',.slice A' n' c'] 40))):=((Ext.refl _).alloc _).alloc _
 obtain ⟨B,d,hv1,hc1,hm1,hx⟩:=h.2.open_
 obtain ⟨B',d',hv2,hc2,hm2,hy⟩:=h'.2.open_
 injection hv1 with e1 e2 e3
 subst e1;subst e3
 injection hv2 with e4 e5 e6
 subst e4;subst e6
 have hb:b=decide (x<0):=by have:=h.1;injection this
 have hb':b'=decide (y<0):=by have:=h'.1;injection this
 replace hx:=Ac hx
 replace hy:=Ac hy
 replace e2:=Ac e2
 replace e5:=Ac e5
 have hnb:n<=9223372036854775807:=by have:=e2.out;omega
 clear h h' hc1 hc2
 by_cases hbb:b=b'
 .by_cases hnn:n=n'
  .subst hbb;subst hnn
   have hsg:Hid (x.natAbs=y.natAbs->x=y):=Ac λh=>by
    rw [hb] at hb'
    by_cases h1:x<0<;>by_cases h2:y<0<;>simp [h1,h2] at hb'<;>omega
   clear hb hb'
   go_enter Tryz.func90,Tryz.ntmps90
   go_wp2
   generalize ((w.alloc (.cells #[.bool b,.slice A n c] 40)).alloc (.cells #[.bool b,.slice A' n c'] 40))=wa at *
   generalize w.heap.size=B2 at *
   go_loopw [5] (λi wr=>∃k:Nat,k<=n/\i = .int .i64 k/\Hid (Ext wa wr/\∀i,i<k->(Am x.natAbs).getD i 0=(Am y.natAbs).getD i 0)) (λi _=>n-(intOf i).toNat)
   case atStart=>exact ⟨0,by omega,rfl,Ext.refl _,λi hi=>absurd hi (Nat.not_lt_zero _)⟩
   case round=>
    obtain ⟨k,hk,rfl,hI⟩:=hrel
    have q1:wr.cell? ⟨B2,1,none⟩=some (.slice A n c):=hI.out.1.cellv (hb2.out.cell 1)
    have q2:wr.cell? ⟨B2+1,1,none⟩=some (.slice A' n c'):=hI.out.1.cellv (hb3.out.cell 1)
    by_cases hlt:k<n
    .have hd:decide (k<n)=true:=by simpa using hlt
     obtain ⟨gx,ox,rfl,hgx,hcx⟩:=hx.out (by rw [<-e2.out];omega)
     obtain ⟨gy,oy,rfl,hgy,hcy⟩:=hy.out (by rw [<-e5.out];omega)
     replace hcx:wr.cell? ⟨gx,ox+k,none⟩=some (.int .u32 ((Am x.natAbs).getD k 0:Nat)):=(hE.out.trans hI.out.1).cellv (hcx k (by rw [<-e2.out];omega))
     replace hcy:wr.cell? ⟨gy,oy+k,none⟩=some (.int .u32 ((Am y.natAbs).getD k 0:Nat)):=(hE.out.trans hI.out.1).cellv (hcy k (by rw [<-e5.out];omega))
     generalize hX:(Am x.natAbs).getD k 0=X at *
     generalize hY:(Am y.natAbs).getD k 0=Y at *
     replace hX:=Ac hX
     replace hY:=Ac hY
     by_cases hXY:X=Y
     .subst hXY
      have hwr:IntKind.i64.wrap ((k:Int)+1)=(k:Int)+1:=IntWalk.i64_in _ (by omega)
      go_wp2
      go_quiet (fail)
      go_wp2
      refine ⟨⟨k+1,hlt,by simp,hI.out.1.drewN _,λi hi=>?_⟩,by simp [intOf];omega⟩
      by_cases e:i=k
      .rw [e,hX.out,hY.out]
      .exact hI.out.2 i (by omega)
     .have hne:¬x=y:=λe=>hXY (by rw [<-hX.out, <-hY.out, e])
      have hXi:¬((X:Int)=Y):=by omega
      replace hXY:=Ac hXY
      go_wp2
      go_quiet (fail)
      go_wp2
      go_ret
      exact ⟨by simp [hne],hE.out.trans (hI.out.1.drewN _)⟩
    .obtain rfl:k=n:=by omega
     have hd:decide (k<k)=false:=by simp
     have hxy : x = y := hsg.out (YY (List.ext_getElem (by rw [← e2.out, ← e5.out]) fun i h1 h2 => by
      have:=hI.out.2 i (by rw [e2.out];exact h1)
      simpa [List.getD_eq_getElem?_getD,List.getElem?_eq_getElem h1,List.getElem?_eq_getElem h2] using this))
     replace hxy:=Ac hxy
     go_wp2
     go_ret
     exact ⟨by simp [hxy.out],hE.out.trans hI.out.1⟩
  .subst hbb
   have hne:¬x=y:=λe=>hnn (by rw [e2.out,e5.out,e])
   have hnni:¬((n:Int)=n'):=by omega
   replace hnn:=Ac hnn
   replace hne:=Ac hne
   clear hb hb'
   go_enter Tryz.func90,Tryz.ntmps90
   go_wp2
   go_ret
   exact ⟨by simp [hne.out],hE.out⟩
 .have hne:¬x=y:=λe=>hbb (by rw [hb, hb', e])
  replace hne:=Ac hne
  clear hb hb'
  cases b<;>cases b'
  .exact absurd rfl hbb
  .go_enter Tryz.func90,Tryz.ntmps90
   go_wp2
   go_ret
   exact ⟨by simp [hne.out],hE.out⟩
  .go_enter Tryz.func90,Tryz.ntmps90
   go_wp2
   go_ret
   exact ⟨by simp [hne.out],hE.out⟩
  .exact absurd rfl hbb
theorem MS(bx bx':Bool)(Ax Ax':Option Addr)(nx cx nx' cx':Nat)(bz bz':Bool)(Ay Ay':Option Addr)(ny cy ny' cy':Nat)(p q:Rat)(w:World)(h:IsRat w (.bool bx) (.slice Ax nx cx) (.bool bx') (.slice Ax' nx' cx') p)(h':IsRat w (.bool bz) (.slice Ay ny cy) (.bool bz') (.slice Ay' ny' cy') q) :
  Calls Tryz.prog 60 #[.agg #[.bool bx,.slice Ax nx cx,.bool bx',.slice Ax' nx' cx'],.agg #[.bool bz,.slice Ay ny cy,.bool bz',.slice Ay' ny' cy']] w λe w'=>e = .returned (.bool (decide (p=q)))/\Ext w w':=by
 have hb2:Hid (Blk ((w.alloc (.cells #[.bool bx,.slice Ax nx cx,.bool bx',.slice Ax' nx' cx'] 42)).alloc (.cells #[.bool bz,.slice Ay ny cy,.bool bz',.slice Ay' ny' cy'] 42)) w.heap.size 42 #[.bool bx,.slice Ax nx cx,.bool bx',.slice Ax' nx' cx']):=(Blk.new _ _ _).alloc _
 have hb3:Hid (Blk ((w.alloc (.cells #[.bool bx,.slice Ax nx cx,.bool bx',.slice Ax' nx' cx'] 42)).alloc (.cells #[.bool bz,.slice Ay ny cy,.bool bz',.slice Ay' ny' cy'] 42)) (w.heap.size+1) 42 #[.bool bz,.slice Ay ny cy,.bool bz',.slice Ay' ny' cy']):=AW _ _ (by simp)
 have hE:Hid (Ext w ((w.alloc (.cells #[.bool bx,.slice Ax nx cx,.bool bx',.slice Ax' nx' cx'] 42)).alloc (.cells #[.bool bz,.slice Ay ny cy,.bool bz',.slice Ay' ny' cy'] 42))):=((Ext.refl _).alloc _).alloc _
 replace h:=Ac (h.ext hE.out)
 replace h':=Ac (h'.ext hE.out)
 go_enter Tryz.func60,Tryz.ntmps60
 go_wp2_with fail
 generalize ((w.alloc (.cells #[.bool bx,.slice Ax nx cx,.bool bx',.slice Ax' nx' cx'] 42)).alloc (.cells #[.bool bz,.slice Ay ny cy,.bool bz',.slice Ay' ny' cy'] 42))=wa at *
 generalize w.heap.size=B2 at *
 refine (Oh _ _ _ _ _ _ _ _ p.num q.num _ h.out.1 h'.out.1).mono ?_
 rintro e w1 ⟨rfl,hE1⟩
 have q2:w1.cell? ⟨B2,2,none⟩=some (.bool bx'):=hE1.cellv (hb2.out.cell 2)
 have q3:w1.cell? ⟨B2,3,none⟩=some (.slice Ax' nx' cx'):=hE1.cellv (hb2.out.cell 3)
 have q4:w1.cell? ⟨B2+1,2,none⟩=some (.bool bz'):=hE1.cellv (hb3.out.cell 2)
 have q5:w1.cell? ⟨B2+1,3,none⟩=some (.slice Ay' ny' cy'):=hE1.cellv (hb3.out.cell 3)
 replace hE1:=Ac hE1
 by_cases hnum:p.num=q.num
 .have hd:decide (p.num=q.num)=true:=by simpa using hnum
  rw [hd]
  replace hnum:=Ac hnum
  clear hd
  go_wp2_with fail
  refine (Oh _ _ _ _ _ _ _ _ (p.den:Int) (q.den:Int) _ (h.out.2.ext hE1.out) (h'.out.2.ext hE1.out)).mono ?_
  rintro e w2 ⟨rfl,hE2⟩
  have hr:decide ((p.den:Int)=q.den)=decide (p=q):=by
   by_cases hpq:p=q
   .subst hpq;simp
   .have:¬((p.den:Int)=q.den):=λe=>hpq (Rat.ext hnum.out (by omega))
    simp [this,hpq]
  obtain ⟨bb,hbb⟩:∃bb,decide (p=q)=bb:=⟨_,rfl⟩
  rw [hr,hbb]
  replace hbb:=Ac hbb
  replace hE2:=Ac hE2
  clear hr
  cases bb
  .go_wp2
   go_ret
   exact ⟨by rw [hbb.out];rfl,hE.out.trans (hE1.out.trans hE2.out)⟩
  .go_wp2
   go_ret
   exact ⟨by rw [hbb.out];rfl,hE.out.trans (hE1.out.trans hE2.out)⟩
 .have hd:decide (p.num=q.num)=false:=by simpa using hnum
  rw [hd]
  have hr:decide (p=q)=false:=by
   simp only [decide_eq_false_iff_not]
   exact λe=>hnum (by rw [e])
  replace hr:=Ac hr
  clear hd hnum
  go_wp2
  go_ret
  exact ⟨by rw [hr.out];rfl,hE.out.trans hE1.out⟩
noncomputable def Vg (s t:Tm):Bool:=Nj s.m t.m&&decide (s.c=t.c)
theorem Qg{s t:Tm}:Vg s t=true↔Eqv s.m t.m/\s.c=t.c:=by
 unfold Vg
 rw [Bool.and_eq_true,CB,decide_eq_true_eq]
 exact Iff.rfl
theorem Nm(bx bx':Bool)(Ax Ax':Option Addr)(nx cx nx' cx':Nat)(bz bz':Bool)(Ay Ay':Option Addr)(ny cy ny' cy':Nat)(s t:Tm)(w:World)(h:IsRat w (.bool bx) (.slice Ax nx cx) (.bool bx') (.slice Ax' nx' cx') s.c)(h':IsRat w (.bool bz) (.slice Ay ny cy) (.bool bz') (.slice Ay' ny' cy') t.c) :
  Calls Tryz.prog 50 #[.agg #[.bool bx,.slice Ax nx cx,.bool bx',.slice Ax' nx' cx',.int .i64 (s.m 0),.int .i64 (s.m 1),.int .i64 (s.m 2),.int .i64 (s.m 3),.int .i64 (s.m 4),.int .i64 (s.m 5),.int .i64 (s.m 6),.int .i64 (s.m 7)],.agg #[.bool bz,.slice Ay ny cy,.bool bz',.slice Ay' ny' cy',.int .i64 (t.m 0),.int .i64 (t.m 1),.int .i64 (t.m 2),.int .i64 (t.m 3),.int .i64 (t.m 4),.int .i64 (t.m 5),.int .i64 (t.m 6),.int .i64 (t.m 7)]] w λe w'=>e = .returned (.bool (Vg s t))/\Ext w w':=by
 have hb2:Hid (Blk ((w.alloc (.cells #[.bool bx,.slice Ax nx cx,.bool bx',.slice Ax' nx' cx',.int .i64 (s.m 0),.int .i64 (s.m 1),.int .i64 (s.m 2),.int .i64 (s.m 3),.int .i64 (s.m 4),.int .i64 (s.m 5),.int .i64 (s.m 6),.int .i64 (s.m 7)] 81)).alloc (.cells #[.bool bz,.slice Ay ny cy,.bool bz',.slice Ay' ny' cy',.int .i64 (t.m 0),.int .i64 (t.m 1),.int .i64 (t.m 2),.int .i64 (t.m 3),.int .i64 (t.m 4),.int .i64 (t.m 5),.int .i64 (t.m 6),.int .i64 (t.m 7)] 81)) w.heap.size 81 #[.bool bx,.slice Ax nx cx,.bool bx',.slice Ax' nx' cx',.int .i64 (s.m 0),.int .i64 (s.m 1),.int .i64 (s.m 2),.int .i64 (s.m 3),.int .i64 (s.m 4),.int .i64 (s.m 5),.int .i64 (s.m 6),.int .i64 (s.m 7)]):=(Blk.new _ _ _).alloc _
 have hb3:Hid (Blk ((w.alloc (.cells #[.bool bx,.slice Ax nx cx,.bool bx',.slice Ax' nx' cx',.int .i64 (s.m 0),.int .i64 (s.m 1),.int .i64 (s.m 2),.int .i64 (s.m 3),.int .i64 (s.m 4),.int .i64 (s.m 5),.int .i64 (s.m 6),.int .i64 (s.m 7)] 81)).alloc (.cells #[.bool bz,.slice Ay ny cy,.bool bz',.slice Ay' ny' cy',.int .i64 (t.m 0),.int .i64 (t.m 1),.int .i64 (t.m 2),.int .i64 (t.m 3),.int .i64 (t.m 4),.int .i64 (t.m 5),.int .i64 (t.m 6),.int .i64 (t.m 7)] 81)) (w.heap.size+1) 81 #[.bool bz,.slice Ay ny cy,.bool bz',.slice Ay' ny' cy',.int .i64 (t.m 0),.int .i64 (t.m 1),.int .i64 (t.m 2),.int .i64 (t.m 3),.int .i64 (t.m 4),.int .i64 (t.m 5),.int .i64 (t.m 6),.int .i64 (t.m 7)]):=AW _ _ (by simp)
 have hE:Hid (Ext w ((w.alloc (.cells #[.bool bx,.slice Ax nx cx,.bool bx',.slice Ax' nx' cx',.int .i64 (s.m 0),.int .i64 (s.m 1),.int .i64 (s.m 2),.int .i64 (s.m 3),.int .i64 (s.m 4),.int .i64 (s.m 5),.int .i64 (s.m 6),.int .i64 (s.m 7)] 81)).alloc (.cells #[.bool bz,.slice Ay ny cy,.bool bz',.slice Ay' ny' cy',.int .i64 (t.m 0),.int .i64 (t.m 1),.int .i64 (t.m 2),.int .i64 (t.m 3),.int .i64 (t.m 4),.int .i64 (t.m 5),.int .i64 (t.m 6),.int .i64 (t.m 7)] 81))):=((Ext.refl _).alloc _).alloc _
 replace h:=Ac (h.ext hE.out)
 replace h':=Ac (h'.ext hE.out)
 have heq:∀W,_:=λW=>EJ s.m t.m W
 by_cases hm:Nj s.m t.m=true
 .rw [hm] at heq
  have hr:Vg s t=decide (s.c=t.c):=by unfold Vg;rw [hm,Bool.true_and]
  rw [hr]
  clear hr hm
  obtain ⟨bb,hbb⟩:∃bb,decide (s.c=t.c)=bb:=⟨_,rfl⟩
  replace hbb:=Ac hbb
  go_enter Tryz.func50,Tryz.ntmps50
  go_wp2_with fail
  generalize ((w.alloc (.cells #[.bool bx,.slice Ax nx cx,.bool bx',.slice Ax' nx' cx',.int .i64 (s.m 0),.int .i64 (s.m 1),.int .i64 (s.m 2),.int .i64 (s.m 3),.int .i64 (s.m 4),.int .i64 (s.m 5),.int .i64 (s.m 6),.int .i64 (s.m 7)] 81)).alloc (.cells #[.bool bz,.slice Ay ny cy,.bool bz',.slice Ay' ny' cy',.int .i64 (t.m 0),.int .i64 (t.m 1),.int .i64 (t.m 2),.int .i64 (t.m 3),.int .i64 (t.m 4),.int .i64 (t.m 5),.int .i64 (t.m 6),.int .i64 (t.m 7)] 81))=wa at *
  refine (MS bx bx' Ax Ax' nx cx nx' cx' bz bz' Ay Ay' ny cy ny' cy' s.c t.c _ h.out h'.out).mono ?_
  rintro e w1 ⟨rfl,hE1⟩
  rw [hbb.out]
  replace hE1:=Ac hE1
  clear heq
  cases bb
  .go_wp2
   go_ret
   exact ⟨by rw [hbb.out];rfl,hE.out.trans hE1.out⟩
  .go_wp2
   go_ret
   exact ⟨by rw [hbb.out];rfl,hE.out.trans hE1.out⟩
 .have hm':Nj s.m t.m=false:=by simpa using hm
  rw [hm'] at heq
  have hr:Vg s t=false:=by unfold Vg;rw [hm',Bool.false_and]
  rw [hr]
  clear hr hm hm'
  go_enter Tryz.func50,Tryz.ntmps50
  go_wp2
  go_ret
  exact ⟨rfl,hE.out⟩
noncomputable def ND (P Q:List Tm):Bool:=@decide (SameL P Q) (Classical.propDecidable _)
theorem IC{P Q:List Tm}:ND P Q=true↔SameL P Q:=by
 unfold ND
 exact @decide_eq_true_iff _ (Classical.propDecidable _)
theorem Ku{P Q:List Tm}(h:¬SameL P Q):ND P Q=false:=by
 rw [Bool.eq_false_iff]
 exact λh'=>h (IC.1 h')
theorem JQ:∀{P Q:List Tm},SameL P Q↔P.length=Q.length/\∀k,k<P.length->Vg (AZ P k) (AZ Q k)=true
 | [],[]=>by simp [SameL]
 | [],t::Q=>by simp [SameL]
 | s::P,[]=>by simp [SameL]
 | s::P,t::Q=>by
  have ih:=JQ (P:=P) (Q:=Q)
  constructor
  .rintro ⟨h1,h2,h3⟩
   obtain ⟨h4,h5⟩:=ih.1 h3
   refine ⟨by simp [h4],λk hk=>?_⟩
   match k with
   | 0=>exact Qg.2 ⟨h2,h1⟩
   | k+1=>exact h5 k (by simpa using hk)
  .rintro ⟨h1,h2⟩
   have h0:=Qg.1 (h2 0 (by simp))
   exact ⟨h0.2,h0.1,ih.2 ⟨by simpa using h1,λk hk=>h2 (k+1) (by simpa using hk)⟩⟩
theorem PolAt.form{w:World}{v:Value}{P:List Tm}(h:PolAt w v P):∃A c,v = .slice A P.length c:=by
 obtain ⟨A,c,h1,_⟩:=h
 exact ⟨A,c,h1⟩
theorem WR(v u:Value)(P Q:List Tm)(w:World)(h:PolAt w v P)(h':PolAt w u Q) :
  Calls Tryz.prog 14 #[v,u] w λe w'=>e = .returned (.bool (ND P Q))/\Ext w w':=by
 obtain ⟨A,cP,rfl⟩:=h.form
 obtain ⟨A',cQ,rfl⟩:=h'.form
 replace h:=Ac h
 replace h':=Ac h'
 obtain ⟨N,hN⟩:∃N,N=P.length:=⟨_,rfl⟩
 obtain ⟨M,hM⟩:∃M,M=Q.length:=⟨_,rfl⟩
 rw [<-hN] at h ⊢
 rw [<-hM] at h' ⊢
 by_cases hlen:N=M
 .subst hlen
  replace hN:=Ac hN
  replace hM:=Ac hM
  go_enter Tryz.func14,Tryz.ntmps14
  go_wp2
  go_loopw [5] (λi wr=>∃k:Nat,k<=N/\i = .int .i64 k/\Hid ((∀i,i<k->Vg (AZ P i) (AZ Q i)=true)/\Ext w wr)) (λi _=>N-(intOf i).toNat)
  case atStart=>exact ⟨0,by omega,rfl,λi hi=>absurd hi (Nat.not_lt_zero _),Ext.refl _⟩
  case round=>
   obtain ⟨k,hk,rfl,hI⟩:=hrel
   by_cases hlt:k<N
   .have hd:decide (k<N)=true:=by simpa using hlt
    obtain ⟨_,_,_,gx,ox,bx,bx',Ax,Ax',nx,cx,nx',cx',rfl,hgx,hcx,hsx⟩:=h.out.term (k:=k) (by rw [<-hN.out];exact hlt)
    obtain ⟨_,_,_,gy,oy,bz,bz',Ay,Ay',ny,cy,ny',cy',rfl,hgy,hcy,hsy⟩:=h'.out.term (k:=k) (by rw [<-hM.out];exact hlt)
    replace hsx:=Ac hsx
    replace hsy:=Ac hsy
    have x0:Hid (wr.cell? ⟨gx,ox+k*12,none⟩=some (.bool bx)):=hI.out.2.cellv (hcx 0 (by omega))
    have x1:Hid (wr.cell? ⟨gx,ox+k*12+1,none⟩=some (.slice Ax nx cx)):=hI.out.2.cellv (hcx 1 (by omega))
    have x2:Hid (wr.cell? ⟨gx,ox+k*12+2,none⟩=some (.bool bx')):=hI.out.2.cellv (hcx 2 (by omega))
    have x3:Hid (wr.cell? ⟨gx,ox+k*12+3,none⟩=some (.slice Ax' nx' cx')):=hI.out.2.cellv (hcx 3 (by omega))
    have x4:Hid (wr.cell? ⟨gx,ox+k*12+4,none⟩=some (.int .i64 ((AZ P k).m 0))):=hI.out.2.cellv (hcx 4 (by omega))
    have x5:Hid (wr.cell? ⟨gx,ox+k*12+5,none⟩=some (.int .i64 ((AZ P k).m 1))):=hI.out.2.cellv (hcx 5 (by omega))
    have x6:Hid (wr.cell? ⟨gx,ox+k*12+6,none⟩=some (.int .i64 ((AZ P k).m 2))):=hI.out.2.cellv (hcx 6 (by omega))
    have x7:Hid (wr.cell? ⟨gx,ox+k*12+7,none⟩=some (.int .i64 ((AZ P k).m 3))):=hI.out.2.cellv (hcx 7 (by omega))
    have x8:Hid (wr.cell? ⟨gx,ox+k*12+8,none⟩=some (.int .i64 ((AZ P k).m 4))):=hI.out.2.cellv (hcx 8 (by omega))
    have x9:Hid (wr.cell? ⟨gx,ox+k*12+9,none⟩=some (.int .i64 ((AZ P k).m 5))):=hI.out.2.cellv (hcx 9 (by omega))
    have x10:Hid (wr.cell? ⟨gx,ox+k*12+10,none⟩=some (.int .i64 ((AZ P k).m 6))):=hI.out.2.cellv (hcx 10 (by omega))
    have x11:Hid (wr.cell? ⟨gx,ox+k*12+11,none⟩=some (.int .i64 ((AZ P k).m 7))):=hI.out.2.cellv (hcx 11 (by omega))
    have y0:Hid (wr.cell? ⟨gy,oy+k*12,none⟩=some (.bool bz)):=hI.out.2.cellv (hcy 0 (by omega))
    have y1:Hid (wr.cell? ⟨gy,oy+k*12+1,none⟩=some (.slice Ay ny cy)):=hI.out.2.cellv (hcy 1 (by omega))
    have y2:Hid (wr.cell? ⟨gy,oy+k*12+2,none⟩=some (.bool bz')):=hI.out.2.cellv (hcy 2 (by omega))
    have y3:Hid (wr.cell? ⟨gy,oy+k*12+3,none⟩=some (.slice Ay' ny' cy')):=hI.out.2.cellv (hcy 3 (by omega))
    have y4:Hid (wr.cell? ⟨gy,oy+k*12+4,none⟩=some (.int .i64 ((AZ Q k).m 0))):=hI.out.2.cellv (hcy 4 (by omega))
    have y5:Hid (wr.cell? ⟨gy,oy+k*12+5,none⟩=some (.int .i64 ((AZ Q k).m 1))):=hI.out.2.cellv (hcy 5 (by omega))
    have y6:Hid (wr.cell? ⟨gy,oy+k*12+6,none⟩=some (.int .i64 ((AZ Q k).m 2))):=hI.out.2.cellv (hcy 6 (by omega))
    have y7:Hid (wr.cell? ⟨gy,oy+k*12+7,none⟩=some (.int .i64 ((AZ Q k).m 3))):=hI.out.2.cellv (hcy 7 (by omega))
    have y8:Hid (wr.cell? ⟨gy,oy+k*12+8,none⟩=some (.int .i64 ((AZ Q k).m 4))):=hI.out.2.cellv (hcy 8 (by omega))
    have y9:Hid (wr.cell? ⟨gy,oy+k*12+9,none⟩=some (.int .i64 ((AZ Q k).m 5))):=hI.out.2.cellv (hcy 9 (by omega))
    have y10:Hid (wr.cell? ⟨gy,oy+k*12+10,none⟩=some (.int .i64 ((AZ Q k).m 6))):=hI.out.2.cellv (hcy 10 (by omega))
    have y11:Hid (wr.cell? ⟨gy,oy+k*12+11,none⟩=some (.int .i64 ((AZ Q k).m 7))):=hI.out.2.cellv (hcy 11 (by omega))
    clear hcx hcy hgx hgy
    have hup:Hid (Vg (AZ P k) (AZ Q k)=true->∀i,i<k+1->Vg (AZ P i) (AZ Q i)=true):=Ac λhk i hi=>by
     by_cases e:i=k
     .rw [e];exact hk
     .exact hI.out.1 i (by omega)
    have hdn:Hid (Vg (AZ P k) (AZ Q k)=false->ND P Q=false):=Ac λhk=>Ku λhs=>by
     have:=(JQ.1 hs).2 k (by rw [<-hN.out];exact hlt)
     rw [hk] at this;cases this
    obtain ⟨bb,hbb⟩:∃bb,Vg (AZ P k) (AZ Q k)=bb:=⟨_,rfl⟩
    rw [hbb] at hup hdn
    replace hbb:=Ac hbb
    replace hI:=Ac hI.out
    generalize AZ P k=s at *
    generalize AZ Q k=t at *
    go_upto_region 6 with (fail)
    have i1:(k:Int)<N:=by omega
    refine wp_region_v (by kernel_rfl) [[], [], [(17, 0), (18, 1)], [(19, 2)], [], [], [(21, 4), (22, 5)], [(23, 6)], [(20, 3), (24, 7)], [(25, 8)]] [[], [], [0, 1], [0, 1, 2], [], [], [4, 5], [4, 5, 6], [0, 1, 2, 3, 4, 5, 6, 7], [0, 1, 2, 3, 4, 5, 6, 7, 8]]
     [λv _=>v = .slice (some ⟨gx,ox,none⟩) N cP,λv _=>v = .int .i64 (k:Int),λv _=>v = .pointer (some ⟨gx,ox+k*12,none⟩),λv _=>v = .agg #[.bool bx,.slice Ax nx cx,.bool bx',.slice Ax' nx' cx',.int .i64 (s.m 0),.int .i64 (s.m 1),.int .i64 (s.m 2),.int .i64 (s.m 3),.int .i64 (s.m 4),.int .i64 (s.m 5),.int .i64 (s.m 6),.int .i64 (s.m 7)],λv _=>v = .slice (some ⟨gy,oy,none⟩) N cQ,λv _=>v = .int .i64 (k:Int),λv _=>v = .pointer (some ⟨gy,oy+k*12,none⟩),λv _=>v = .agg #[.bool bz,.slice Ay ny cy,.bool bz',.slice Ay' ny' cy',.int .i64 (t.m 0),.int .i64 (t.m 1),.int .i64 (t.m 2),.int .i64 (t.m 3),.int .i64 (t.m 4),.int .i64 (t.m 5),.int .i64 (t.m 6),.int .i64 (t.m 7)],λv _=>v = .bool bb,λv _=>v = .bool (!bb)]
     rfl (by kernel_rfl) (by kernel_rfl) ?stab ?steps ?fin
    case stab=>exact .cons (Stab.eq _) (.cons (Stab.eq _) (.cons (Stab.eq _) (.cons (Stab.eq _) (.cons (Stab.eq _) (.cons (Stab.eq _) (.cons (Stab.eq _) (.cons (Stab.eq _) (.cons (Stab.eq _) (.cons (Stab.eq _) .nil)))))))))
    case steps=>
     refine .cons ?s0 (.cons ?s1 (.cons ?s2 (.cons ?s3 (.cons ?s4 (.cons ?s5 (.cons ?s6 (.cons ?s7 (.cons ?s8 (.cons ?s9 .nil)))))))))
     case s0=>
      intro w' ev hE hk ha hc hf
      have e0:ev (.tmp 0) = .slice (some ⟨gx,ox,none⟩) N cP:=ha 0 (by decide)
      exact Ag (by simp [execOp,e0,go_sem]) rfl
     case s1=>
      intro w' ev hE hk ha hc hf
      have e5:ev (.tmp 5) = .int .i64 (k:Int):=ha 5 (by decide)
      exact Ag (by simp [execOp,e5,go_sem]) rfl
     case s2=>
      intro w' ev hE hk ha hc hf
      have e17:ev (.tmp 17) = .slice (some ⟨gx,ox,none⟩) N cP:=hk.1 _ rfl
      have e18:ev (.tmp 18) = .int .i64 (k:Int):=hk.2.1 _ rfl
      exact Ag (by simp [execOp,e17,e18,i1,go_sem]) rfl
     case s3=>
      intro w' ev hE hk ha hc hf
      have e19:ev (.tmp 19) = .pointer (some ⟨gx,ox+k*12,none⟩):=hk.1 _ rfl
      have c0:w'.cell? ⟨gx,ox+k*12,none⟩=some (.bool bx):=hE.cellv x0.out
      have c1:w'.cell? ⟨gx,ox+k*12+1,none⟩=some (.slice Ax nx cx):=hE.cellv x1.out
      have c2:w'.cell? ⟨gx,ox+k*12+2,none⟩=some (.bool bx'):=hE.cellv x2.out
      have c3:w'.cell? ⟨gx,ox+k*12+3,none⟩=some (.slice Ax' nx' cx'):=hE.cellv x3.out
      have c4:w'.cell? ⟨gx,ox+k*12+4,none⟩=some (.int .i64 (s.m 0)):=hE.cellv x4.out
      have c5:w'.cell? ⟨gx,ox+k*12+5,none⟩=some (.int .i64 (s.m 1)):=hE.cellv x5.out
      have c6:w'.cell? ⟨gx,ox+k*12+6,none⟩=some (.int .i64 (s.m 2)):=hE.cellv x6.out
      have c7:w'.cell? ⟨gx,ox+k*12+7,none⟩=some (.int .i64 (s.m 3)):=hE.cellv x7.out
      have c8:w'.cell? ⟨gx,ox+k*12+8,none⟩=some (.int .i64 (s.m 4)):=hE.cellv x8.out
      have c9:w'.cell? ⟨gx,ox+k*12+9,none⟩=some (.int .i64 (s.m 5)):=hE.cellv x9.out
      have c10:w'.cell? ⟨gx,ox+k*12+10,none⟩=some (.int .i64 (s.m 6)):=hE.cellv x10.out
      have c11:w'.cell? ⟨gx,ox+k*12+11,none⟩=some (.int .i64 (s.m 7)):=hE.cellv x11.out
      exact Ag (by simp [execOp,e19,c0,c1,c2,c3,c4,c5,c6,c7,c8,c9,c10,c11,go_sem]) rfl
     case s4=>
      intro w' ev hE hk ha hc hf
      have e1:ev (.tmp 1) = .slice (some ⟨gy,oy,none⟩) N cQ:=ha 1 (by decide)
      exact Ag (by simp [execOp,e1,go_sem]) rfl
     case s5=>
      intro w' ev hE hk ha hc hf
      have e5:ev (.tmp 5) = .int .i64 (k:Int):=ha 5 (by decide)
      exact Ag (by simp [execOp,e5,go_sem]) rfl
     case s6=>
      intro w' ev hE hk ha hc hf
      have e21:ev (.tmp 21) = .slice (some ⟨gy,oy,none⟩) N cQ:=hk.1 _ rfl
      have e22:ev (.tmp 22) = .int .i64 (k:Int):=hk.2.1 _ rfl
      exact Ag (by simp [execOp,e21,e22,i1,go_sem]) rfl
     case s7=>
      intro w' ev hE hk ha hc hf
      have e23:ev (.tmp 23) = .pointer (some ⟨gy,oy+k*12,none⟩):=hk.1 _ rfl
      have c0:w'.cell? ⟨gy,oy+k*12,none⟩=some (.bool bz):=hE.cellv y0.out
      have c1:w'.cell? ⟨gy,oy+k*12+1,none⟩=some (.slice Ay ny cy):=hE.cellv y1.out
      have c2:w'.cell? ⟨gy,oy+k*12+2,none⟩=some (.bool bz'):=hE.cellv y2.out
      have c3:w'.cell? ⟨gy,oy+k*12+3,none⟩=some (.slice Ay' ny' cy'):=hE.cellv y3.out
      have c4:w'.cell? ⟨gy,oy+k*12+4,none⟩=some (.int .i64 (t.m 0)):=hE.cellv y4.out
      have c5:w'.cell? ⟨gy,oy+k*12+5,none⟩=some (.int .i64 (t.m 1)):=hE.cellv y5.out
      have c6:w'.cell? ⟨gy,oy+k*12+6,none⟩=some (.int .i64 (t.m 2)):=hE.cellv y6.out
      have c7:w'.cell? ⟨gy,oy+k*12+7,none⟩=some (.int .i64 (t.m 3)):=hE.cellv y7.out
      have c8:w'.cell? ⟨gy,oy+k*12+8,none⟩=some (.int .i64 (t.m 4)):=hE.cellv y8.out
      have c9:w'.cell? ⟨gy,oy+k*12+9,none⟩=some (.int .i64 (t.m 5)):=hE.cellv y9.out
      have c10:w'.cell? ⟨gy,oy+k*12+10,none⟩=some (.int .i64 (t.m 6)):=hE.cellv y10.out
      have c11:w'.cell? ⟨gy,oy+k*12+11,none⟩=some (.int .i64 (t.m 7)):=hE.cellv y11.out
      exact Ag (by simp [execOp,e23,c0,c1,c2,c3,c4,c5,c6,c7,c8,c9,c10,c11,go_sem]) rfl
     case s8=>
      intro w' ev hE hk ha hc hf
      have e20:ev (.tmp 20) = .agg #[.bool bx,.slice Ax nx cx,.bool bx',.slice Ax' nx' cx',.int .i64 (s.m 0),.int .i64 (s.m 1),.int .i64 (s.m 2),.int .i64 (s.m 3),.int .i64 (s.m 4),.int .i64 (s.m 5),.int .i64 (s.m 6),.int .i64 (s.m 7)]:=hk.1 _ rfl
      have e24:ev (.tmp 24) = .agg #[.bool bz,.slice Ay ny cy,.bool bz',.slice Ay' ny' cy',.int .i64 (t.m 0),.int .i64 (t.m 1),.int .i64 (t.m 2),.int .i64 (t.m 3),.int .i64 (t.m 4),.int .i64 (t.m 5),.int .i64 (t.m 6),.int .i64 (t.m 7)]:=hk.2.1 _ rfl
      refine Aw (by simp [execOp,resolve,invoke,hf,e20,e24,go_sem]) (Nm bx bx' Ax Ax' nx cx nx' cx' bz bz' Ay Ay' ny cy ny' cy' s t _ (hsx.out.ext (hI.out.2.trans ((Ext.refl _).drew.trans hE))) (hsy.out.ext (hI.out.2.trans ((Ext.refl _).drew.trans hE)))) ?_
      rintro e w1 ⟨rfl,hE1⟩
      exact ⟨_,rfl,hE1,by rw [hbb.out]⟩
     case s9=>
      intro w' ev hE hk ha hc hf
      have e25:ev (.tmp 25) = .bool bb:=hk.1 _ rfl
      exact Ag (by simp [execOp,e25,go_sem]) rfl
    case fin=>
     intro gf w' hE hF
     have e9:=hF 9 _ rfl
     simp only [List.length_cons,List.length_nil,Nat.reduceAdd,List.drop_succ_cons,List.drop_zero,List.take_succ_cons,List.take_zero,CM,Act.put,List.setIfInBounds_toArray,List.set_cons_succ,List.set_cons_zero,e9]
     replace hE:=Ac (hI.out.2.trans ((Ext.refl wr).drew.trans hE))
     clear hF e9 i1
     cases bb
     .go_wp2
      go_ret
      exact ⟨by rw [hdn.out (by first | rfl | trivial)];rfl,hE.out⟩
     .go_wp2
      exact ⟨⟨k+1,hlt,by simp,hup.out (by first | rfl | trivial),hE.out⟩,by simp [intOf];omega⟩
   .obtain rfl:k=N:=by omega
    have hd:decide (k<k)=false:=by simp
    go_wp2
    go_ret
    exact ⟨by rw [IC.2 (JQ.2 ⟨by rw [<-hN.out,<-hM.out],λi hi=>hI.out.1 i (by rw [hN.out];exact hi)⟩)];rfl,hI.out.2⟩
 .rw [Ku λhs=>hlen (by rw [hN, hM]; exact hs.length)]
  have hli:¬((N:Int)=M):=by omega
  replace hlen:=Ac hlen
  clear hN hM
  go_enter Tryz.func14,Tryz.ntmps14
  go_wp2
  go_ret
  exact ⟨rfl,Ext.refl _⟩
def Nr(c:Rat)(m:Nat->Int)(P:List Tm):List Tm:=P.map λt=>⟨c*t.c,Ba m t.m⟩
@[simp] theorem Sl(c:Rat)(m:Nat->Int)(P:List Tm):(Nr c m P).length=P.length:=List.length_map ..
theorem NV{α:Type}(f:α->Tm->α)(b:α){P:List Tm}{k:Nat}(h:k<P.length):(P.take (k+1)).foldl f b=f ((P.take k).foldl f b) (AZ P k):=by
 rw [<-Ft h,List.foldl_append]
 rfl
def Su(a:Nat->Int)(k:Nat)(z:Int):Nat->Int:=λj=>if j=k then z else a j
theorem In8.zero:In8 (λ_=>0) 0 65535:=λi _=>⟨Int.le_refl _,by show (0:Int)<=65535;omega⟩
theorem HY(a:Nat->Int):Ba (λ_=>0) a=a:=by funext i;simp [Ba]
theorem CR{c:Rat}:c.num.sign=0↔c=0:=by rw [Int.sign_eq_zero_iff_zero];exact Rat.num_eq_zero
theorem Uj{q:Rat}(h:q≠0):q.num≠0:=λe=>h (Rat.num_eq_zero.1 e)
end Go.Proofs.YtnbfnoebjjdmnaaGreat
