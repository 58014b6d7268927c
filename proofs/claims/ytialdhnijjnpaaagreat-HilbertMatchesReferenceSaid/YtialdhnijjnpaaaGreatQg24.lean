/- Part 24 of the proof of hilbertMatchesReference_holds. No condition. -/
import Derived.Test.YtialdhnijjnpaaaGreatQg21
import Derived.Test.YtialdhnijjnpaaaGreatQg23
set_option linter.unusedSimpArgs false
set_option linter.unusedVariables false
set_option maxRecDepth 100000
set_option maxHeartbeats 4000000
namespace Go.Proofs.YtialdhnijjnpaaaGreat
open Go.RowKit
theorem Rj(n:Nat)(hn:3<=n)(g:Nat)(lb:Array Value)(eg:∀args w,(callFunc g args).run Tryz.prog w = .ok (.enter g args) w)
  (S:List (Nat->Int)->Prop) (N:Nat) (hN:N<=1000000000) (w:World) (hseq:SeqGives Fence.wide (n-1-1) Tryz.prog g lb MO S N w) :
  CallsIn Fence.wide n Tryz.prog 123 #[.func (.func g) #[] lb] w λe w'=>∃(v:Value) (ss:List (Nat->Int)),e = .returned v/\S ss/\w'.ownsRow w.heap.size 55 8 v ss.length (Gi ss)/\Below w.heap.size w w':=by
 have h1:1<=n:=by omega
 have hf147:Fence.wide.fn 147:=trivial
 have e11:∀args w,(callFunc 147 args).run Tryz.prog w = .ok (.enter 147 args) w:=Az Tryz.func147 (by kernel_rfl) (by kernel_rfl)
 refine callsIn_of_wp Tryz.func123 rfl trivial ?_
 simp only [Tryz.ntmps123,List.size_toArray,List.length_cons,List.length_nil,Nat.reduceAdd,Nat.reduceSub,Array.replicate_succ,Array.replicate_zero,List.push_toArray,List.append_toArray,List.nil_append,List.cons_append]
 gi_wp2_with (gi_at_call 147;refine (MQ (n-1) (by omega) g lb eg S N hN _ hseq).mono ?_;rintro e w' ⟨v,ss,rfl,hS,hrow,hb⟩)
 go_ret
 exact ⟨v,ss,rfl,hS,hrow,hb⟩
theorem QH(n:Nat)(hn:1<=n)(Bm b clock:Nat)(es:Array MapEntry)(K:List (Nat->Int))(w:World)(hBm:Bm<w.heap.size)(hm:w.cell? ⟨Bm,0,none⟩=some (.map (some b)))(hb:w.heap[b]? = some (.map es clock))(hkeys:es.toList.map (·.key)=K.map MO)(hborn:∀x∈es.toList,x.born<clock)(hnd:(es.toList.map (·.born)).Nodup) :
  SeqGives Fence.wide n Tryz.prog 125 #[.pointer (some ⟨Bm,0,none⟩)] MO (λss=>ss.Perm K) K.length w:=λl J W hW hJ hY h0=>
 WM n hn l Bm b clock es K J hY W hJ ((hW.cell (p:=⟨Bm,0,none⟩) hBm).trans hm) ((hW.block b (AG hb)).trans hb) hkeys hborn hnd h0
abbrev Ib(E:List KD):Ai:=E.map (·.1)
theorem ZO(ss:Ai){i j:Nat}(hi:i<ss.length)(hj:j<8):(Gi ss)[i*8+j]? = some (.int .i64 (AH ss i j)):=by
 induction ss generalizing i with
 | nil=>simp at hi
 | cons a ss ih=>
  have e:Gi (a::ss)=(c8 a).toList++Gi ss:=rfl
  have hl:(c8 a).toList.length=8:=rfl
  cases i with
  | zero=>
   rw [e,Nat.zero_mul,Nat.zero_add,List.getElem?_append_left (by omega)]
   have:j=0\/j=1\/j=2\/j=3\/j=4\/j=5\/j=6\/j=7:=by omega
   rcases this with rfl | rfl | rfl | rfl | rfl | rfl | rfl | rfl<;>rfl
  | succ i=>
   rw [e,List.getElem?_append_right (by omega),hl,show (i+1)*8+j-8=i*8+j by omega]
   exact ih (by simpa using hi)
abbrev MG:TypeId:=96
theorem NI(E:List KD)(hE:E.length<=1000000):Con Tryz.prog 123 [.fn 125 [0]] [.var MG [.own 1],.obj (DQ E)] []
  (λr hp'=>∃ss:Ai,ss.Perm (Ib E)/\((ss=[]/\r = .d (AZ [])/\hp'=[.var MG [.own 1],.obj (DQ E)])\/∃g c,0<ss.length/\ss.length<=c/\c<=9223372036854775807/\r = .d (sX g ss.length c)/\hp'=[.var MG [.own 1],.obj (DQ E),.obj (By [⟨g,55,EE ss⟩])])):=by
 refine ⟨Az Tryz.func123 (by kernel_rfl) (by kernel_rfl),λs ρ vs hok hhp hsep hl hv=>?_⟩
 obtain ⟨_,e1⟩:=hv 0 _ rfl
 have hvar:=hhp 0 _ rfl
 obtain ⟨Bm,cs0,hρ0,_,hB,hsz0,_,hnS0,hcell0⟩:=hvar
 obtain ⟨u0,hu0,_,_,hu1⟩:=hcell0 0 _ rfl
 obtain ⟨b,hρ1,⟨es,clock,hb,hkeys,hvals,hborn,hnd,hpw⟩⟩:=hhp 1 _ rfl
 have evs:vs.toArray=#[.func (.func 125) #[] #[.pointer (some ⟨Bm,0,none⟩)]]:=by
  match vs,hl with
  | [a],_=>
   have e1:a=_:=e1
   rw [e1,List.map_cons,List.map_nil,hρ0]
 have hm:s.w.cell? ⟨Bm,0,none⟩=some (.map (some b)):=by
  rw [AU hB,hu0,hu1,hρ1]
 have hkeys':es.toList.map (·.key)=(Ib E).map MO:=by
  rw [hkeys,List.map_map]
  rfl
 have hseq:=QH 1 (Nat.le_refl 1) Bm b clock es (Ib E) s.w (AG hB) hm hb hkeys' hborn hnd
 have hcon:=(Rj 3 (Nat.le_refl 3) 125 #[.pointer (some ⟨Bm,0,none⟩)] (Az Tryz.func125 (by kernel_rfl) (by kernel_rfl)) (λss=>ss.Perm (Ib E)) (Ib E).length (by rw [List.length_map];omega) s.w hseq)
 rw [evs]
 refine (callsIn_wide.1 hcon).mono ?_
 rintro e w' ⟨v,ss,rfl,hperm,⟨hlen,hown⟩,hbel⟩
 have hBl:=AG hB
 have hbl:=AG hb
 by_cases h0:ss=[]
 .subst h0
  let s':GS:=s.grown w'
  have hext:Ext s.w w':=⟨hbel.os,hbel.tape,hbel.output,hbel.size,λk hk=>hbel.block k hk⟩
  have hle:GS.Le s s':=EY hext
  have hvd:(AZ []).rel s' v:=by
   rcases hown with ⟨rfl,_⟩ | ⟨g,cap,cur,rfl,h1,h2,h3,h4,h5,h6⟩
   .exact slD.nil _ _ _
   .exact ⟨_,cap,rfl,Nat.zero_le _,by simpa [maxLen] using h4,λh=>absurd h (by simp)⟩
  refine ⟨v,rfl,s',ρ,.d (AZ []),[.var MG [.own 1],.obj (DQ E)],⟨[],hperm,.inl ⟨rfl,rfl,rfl⟩⟩,rfl,hvd,⟨⟨hle.ext.os,hle.ext.tape,hle.ext.output,λk hk _=>hle.ext.block hk,hle.chg,λb k hb _=>hle.old b k hb,hle.tag,hle.ok⟩,hle.ok hok,λi o hi=>(hhp i o hi).le hle,λi j o o' hij hi hj b hbi hbj=>hsep i j o o' hij hi hj b (OwB.le (hhp i o hi) hle hbi) (OwB.le (hhp j o' hj) hle hbj),λi o b hi hb=>.inl ⟨i,o,hi,OwB.le (hhp i o hi) hle hb⟩,λ_ _ _=>rfl,Nat.le_refl _⟩⟩
 .have hpos:0<ss.length:=List.length_pos_iff.2 h0
  obtain ⟨g,cap,cur,rfl,hg0,hg,hc1,hc2,hcs,htake⟩:∃g cap cur,v = .slice (some ⟨g,0,none⟩) ss.length cap/\s.w.heap.size<=g/\w'.heap[g]? = some (.cells cur 55 (0,0))/\ss.length<=cap/\cap<=maxLen/\cur.size=cap*8/\cur.toList.take (ss.length*8)=Gi ss:=by
   rcases hown with ⟨_,h⟩ | h
   .omega
   .exact h
  let s':GS:=⟨λb k=>s.S b k\/(s.w.heap.size<=b/\b<w'.heap.size/\b≠g),s.tag,w'⟩
  have hchg:GS.Chg s s':=⟨hbel.size,λ_ _ h=>.inl h,λb cs T fz hb=>⟨cs,fz,(hbel.block b (AG hb)).trans hb,λ_ _=>rfl⟩⟩
  have hok':s'.Ok:=⟨λb k hb=>hb.elim (λh=>Nat.lt_of_lt_of_le (hok.lt b k h) hbel.size) λh=>h.2.1,λb k ⟨c2,fz,hb⟩=>by
   have hb:w'.heap[b]? = some (.cells c2 136 fz):=hb
   rcases Nat.lt_or_ge b s.w.heap.size with h1 | h1
   .exact .inl (hok.safe b k ⟨c2,fz,(hbel.block b h1).symm.trans hb⟩)
   .refine .inr ⟨h1,AG hb,λe=>?_⟩
    subst e
    rw [hg] at hb
    exact absurd (Obj.cells.inj (Option.some.inj hb)).2.1 (by decide)⟩
  have hold:∀b k,b<s.w.heap.size->s'.S b k->s.S b k:=λb k hb h=>h.elim (λh=>h) λh=>absurd hb (by omega)
  have hfar:∀i o,[Ow.var MG [.own 1],.obj (DQ E)][i]? = some o->∀b,OwB s (ρ i) o b->s'.w.heap[b]? = s.w.heap[b]? /\ ∀k,s'.S b k↔s.S b k:=λi o hi b hbo=>by
   have hlt:=(hhp i o hi).blk_lt0 hbo
   exact ⟨hbel.block b hlt,λk=>⟨hold b k hlt,.inl⟩⟩
  have hback:∀i o,[Ow.var MG [.own 1],.obj (DQ E)][i]? = some o->∀b,OwB s' (ρ i) o b->OwB s (ρ i) o b:=λi o hi b hb=>OwB.keep (hhp i o hi) hchg (hfar i o hi) hb
  have hget:∀i o,[Ow.var MG [.own 1],.obj (DQ E),.obj (By [⟨g,55,EE ss⟩])][i]? = some o->(i<2/\[Ow.var MG [.own 1],.obj (DQ E)][i]? = some o)\/(i=2/\o = .obj (By [⟨g,55,EE ss⟩])):=λi o hi=>by
   match i,hi with
   | 0,hi=>exact .inl ⟨by omega,hi⟩
   | 1,hi=>exact .inl ⟨by omega,hi⟩
   | 2,hi=>cases hi;exact .inr ⟨rfl,rfl⟩
  have hown2:∀b,OwB s' (ρ 2) (.obj (By [⟨g,55,EE ss⟩])) b->b=g:=λb ⟨x,hx,e⟩=>by
   rw [List.mem_singleton.1 hx] at e
   exact e.symm
  refine ⟨_,rfl,s',ρ,.d (sX g ss.length cap),[.var MG [.own 1],.obj (DQ E),.obj (By [⟨g,55,EE ss⟩])],⟨ss,hperm,.inr ⟨g,cap,hpos,hc1,by simpa [maxLen] using hc2,rfl,rfl⟩⟩,rfl,rfl,⟨⟨hbel.os,hbel.tape,hbel.output,λk hk _=>hbel.block k hk,hchg,λb k hb _=>hold b k hb,λ_ _=>rfl,λ_=>hok'⟩,hok',λi o hi=>?_,λi j o o' hij hi hj b hbi hbj=>?_,λi o b hi hb=>?_,λ_ _ _=>rfl,by simp⟩⟩
  .rcases hget i o hi with ⟨h2,hi⟩ | ⟨rfl,rfl⟩
   .exact ((hhp i o hi).keep hchg (hfar i o hi)).mono (by simp) (λ_ _=>rfl) h2
   .refine ⟨λx hx=>?_, by simp⟩
    rw [List.mem_singleton.1 hx]
    refine ⟨(by decide:(55:TypeId)≠136),λk hk=>hk.elim (λh=>absurd (hok.lt g k h) (by omega)) λh=>h.2.2 rfl,cur,hg,?_,λk hk=>?_⟩
    .show (EE ss).length<=_
     rw [DF,hcs]
     exact Nat.mul_le_mul_right 8 hc1
    .have hk:k<(EE ss).length:=hk
     rw [DF] at hk
     have e5:BG (EE ss) k=ex (.int .i64 (AH ss (k/8) (k%8))):=by
      have:=JQ ss (i:=k/8) (j:=k%8) (by omega) (by omega)
      rwa [show k/8*8+k%8=k by omega] at this
     have e6:cur[k]? = some (.int .i64 (AH ss (k/8) (k%8))):=by
      have h7:=ZO ss (i:=k/8) (j:=k%8) (by omega) (by omega)
      rw [show k/8*8+k%8=k by omega,<-htake,List.getElem?_take,if_pos (by omega)] at h7
      simpa using h7
     exact ⟨_,e6,rfl,by show (BG (EE ss) k).rel s' _;rw [e5];rfl⟩
  .rcases hget i o hi with ⟨h2,hi⟩ | ⟨rfl,rfl⟩
   .rcases hget j o' hj with ⟨h3,hj⟩ | ⟨rfl,rfl⟩
    .exact hsep i j o o' hij hi hj b (hback i o hi b hbi) (hback j o' hj b hbj)
    .have:=(hhp i o hi).blk_lt0 (hback i o hi b hbi)
     have:=hown2 b hbj
     omega
   .rcases hget j o' hj with ⟨h3,hj⟩ | ⟨rfl,rfl⟩
    .have:=(hhp j o' hj).blk_lt0 (hback j o' hj b hbj)
     have:=hown2 b hbi
     omega
    .exact absurd rfl hij
  .rcases hget i o hi with ⟨h2,hi⟩ | ⟨rfl,rfl⟩
   .exact .inl ⟨i,o,hi,hback i o hi b hb⟩
   .exact .inr (by have:=hown2 b hb;omega)
theorem ID{P:Program}{f:FuncId}{fn:Func}{c:Code}{args:List AV}{Q:AV->List Ow->Prop}(hf:P.funcs[f]? = some fn)(hb:fn.body=some c)(hcf:∀args w,(callFunc f args).run P w = .ok (.enter f args) w)(hn:Nat.ble args.length fn.ntmps=true){o0 o1 o2 o3 o4:Ow}(h:∀(s0:An) (v0 v1 v2 v3 v4:Value),AWp P s0 fn.ntmps c (FinC P fn [] [v0,v1,v2,v3,v4] Q) ⟨FP 0 args,[o0,o1,o2,o3,o4,.pin [(v0,.own 0),(v1,.own 1),(v2,.own 2),(v3,.own 3),(v4,.own 4)]]⟩):Con P f args [o0,o1,o2,o3,o4] [] Q:=
 GC hf hb hcf hn λs0 vs hv=>by
  match vs,hv with
  | [v0,v1,v2,v3,v4],_=>exact h s0 v0 v1 v2 v3 v4
theorem Xd:Con Tryz.prog 123 [.fn 125 [0]] [.var MG [.own 1],.obj (DQ [])] [] (λr hp'=>r = .d (AZ [])/\hp'=[.var MG [.own 1],.obj (DQ [])]):=by
 refine (NI [] (by decide)).mono λr hp' ⟨ss,hp,h⟩=>?_
 have h0:ss=[]:=hp.eq_nil
 rcases h with ⟨_,h1,h2⟩ | ⟨g,c,h1,_⟩
 .exact ⟨h1,h2⟩
 .subst h0
  exact absurd h1 (by decide)
theorem Xc(E:List KD)(h0:0<E.length)(hE:E.length<=1000000):Con Tryz.prog 123 [.fn 125 [0]] [.var MG [.own 1],.obj (DQ E)] [] (λr hp'=>∃(ss:Ai) (g c:Nat),ss.Perm (Ib E)/\ss.length<=c/\c<=9223372036854775807/\r = .d (sX g ss.length c)/\hp'=[.var MG [.own 1],.obj (DQ E),.obj (By [⟨g,55,EE ss⟩])]):=by
 refine (NI E hE).mono λr hp' ⟨ss,hp,h⟩=>?_
 rcases h with ⟨h1,_,_⟩ | ⟨g,c,h1,h2,h3,h4,h5⟩
 .subst h1
  have:=hp.length_eq
  rw [List.length_map] at this
  simp at this
  omega
 .exact ⟨ss,g,c,hp,h2,h3,h4,h5⟩
theorem PU(E:List KD)(hE:E.length<=1000000):Con Tryz.prog 72 [.fn 125 [0],.d (ex (.func (.func 74) #[] #[]))] [.var MG [.own 1],.obj (DQ E)] [] (λr hp'=>∃(S:Ai) (tl:List Ow),S.Perm (Ib E)/\(S.Pairwise λa b=>lx a b<=0)/\r = .d (AZ S)/\hp'=[.var MG [.own 1],.obj (DQ E),.dead]++tl/\(tl=[]\/tl=[.dead])):=by
 by_cases h0:E=[]
 .subst h0
  refine IE Tryz.func72 rfl (Az Tryz.func72 (by kernel_rfl) (by kernel_rfl)) rfl λs0 pv0 pv1=>?_
  rw [Tryz.ntmps72]
  refine Y1<|Wa<|Y0<|Y1<|Wm ?_
  refine Kk [0,1] [] (Xd) ?_
  rintro _ _ ⟨rfl,rfl⟩
  refine Kr ?_
  try simp only [Bd,Bt]
  refine Wa<|Y0<|Y1<|Wm<|Wm ?_;refine Wq (Ad (Nh)) ?_;refine Y0<|Y1<|Wm<|Wa<|Y0<|Am ?_
  refine Bv (RetsA.one rfl) rfl ?_ rfl
  exact ⟨[],[],List.Perm.refl _,List.Pairwise.nil,rfl,rfl,.inl rfl⟩
 .have hpos:0<E.length:=List.length_pos_iff.2 h0
  refine IE Tryz.func72 rfl (Az Tryz.func72 (by kernel_rfl) (by kernel_rfl)) rfl λs0 pv0 pv1=>?_
  rw [Tryz.ntmps72]
  refine Y1<|Wa<|Y0<|Y1<|Wm ?_
  refine Kk [0,1] [] (Xc E hpos hE) ?_
  rintro _ _ ⟨ss,g,c,hperm,hc1,hc2,rfl,rfl⟩
  refine Kr ?_
  try simp only [Bd,Bt]
  have hsl:ss.length<=1000000:=by
   have:=hperm.length_eq
   rw [List.length_map] at this
   omega
  refine Wa<|Y0<|Y1<|Wm<|Wm ?_
  refine Kk [3] [] (Ng ss g c hsl) ?_
  rintro _ _ ⟨S,hS1,hS2,rfl,rfl⟩
  refine Kr ?_
  try simp only [Bd,Bt]
  have hSl:S.length=ss.length:=hS1.length_eq
  refine Dc (EM (R:=AZ S) 3 5 rfl rfl rfl rfl λs' hs v hv=>?_) ?_
  .rw [<-hSl] at hv hc1
   exact SS (hs _ List.mem_cons_self) hc1 hc2 hv
  refine Y0<|Y1<|Wm<|Wa<|Y0<|Am ?_
  refine Bv (RetsA.one rfl) rfl ?_ rfl
  exact ⟨S,[.dead],hS1.trans hperm,hS2,rfl,rfl,.inr rfl⟩
section
variable {hp:List Ow} {arg:Operand->AV} {dd:Option Tmp} {ty:TypeId} {ps:String} {af:Array Edge} {gd:Option (Nat×Bool)}
theorem NW{m x:Operand}{mt vt:TypeId}{id:Nat}{E:List KD}{a:Nat->Int}{d:TypeDesc}{n b n' b':Nat}{z z0:Value}(hn:∀t∈E,¬Eqv a t.1)(hm:arg m = .own id)(hid:hp[id]? = some (.obj (DQ E)))(hx:arg x = .d (Bb (AK a)))(hmt:Tab Tryz.prog mt (.map 55 vt) n b z)(hvt:Tab Tryz.prog vt d n' b' z0):Quiet Tryz.prog hp ⟨dd,.lookup mt m x false,ty,ps,af,gd⟩ arg (.d (ex z0)):=by
 refine ⟨λbase s ρ ev hok hbs hhp h=>?_⟩
 have h2:=h m (by simp [Op.operands])
 have h3:=h x (by simp [Op.operands])
 rw [hm] at h2;rw [hx] at h3
 obtain ⟨g,e1,h4⟩:=KK hhp h2 hid
 have e2:=Cx h3
 have h5:=h4.look_none hmt.und hvt.run_zero hn false
 exact Bk (v:=z0) (by simp only [execOp,e1,e2,Sem.run_bind,h5,Result.andThen_ok,Sem.run_pure,Bool.false_eq_true,if_false]) ⟨GS.Le.refl s,rfl⟩
theorem XI{m x:Operand}{mt vt:TypeId}{id:Nat}{E:List KD}{a:Nat->Int}{n b:Nat}{z:Value}{d:D}(i:Nat)(hi:i<E.length)(he:Eqv a (GK E i).1)(hn:∀j,j<i->¬Eqv a (GK E j).1)(hd:(GK E i).2=d)(hm:arg m = .own id)(hid:hp[id]? = some (.obj (DQ E)))(hx:arg x = .d (Bb (AK a)))(hmt:Tab Tryz.prog mt (.map 55 vt) n b z):Quiet Tryz.prog hp ⟨dd,.lookup mt m x false,ty,ps,af,gd⟩ arg (.d d):=by
 subst hd
 refine ⟨λbase s ρ ev hok hbs hhp h=>?_⟩
 have h2:=h m (by simp [Op.operands])
 have h3:=h x (by simp [Op.operands])
 rw [hm] at h2;rw [hx] at h3
 obtain ⟨g,e1,h4⟩:=KK hhp h2 hid
 have e2:=Cx h3
 obtain ⟨v,h6,h5⟩:=h4.look_some hmt.und hi he hn false
 exact Bk (v:=v) (by simp only [execOp,e1,e2,Sem.run_bind,h5,Result.andThen_ok,Sem.run_pure,Bool.false_eq_true,if_false]) ⟨GS.Le.refl s,h6⟩
end
theorem GO:Tab Tryz.prog MG (.map 55 4) 1 8 (.map none):=⟨Tryz.underlying96,by kernel_rfl⟩
theorem A2z:Tab Tryz.prog 4 .bool 1 1 (.bool false):=⟨Tryz.underlying4,by kernel_rfl⟩
theorem Uo:Tab Tryz.prog 97 (.func #[55] #[] false) 1 8 .nilFunc:=⟨Tryz.underlying97,by kernel_rfl⟩
abbrev clF:FuncId:=70
def bE(K:Ai):List KD:=K.map λa=>(a,ex (.bool true))
theorem Tn(K:Ai):(bE K).length=K.length:=List.length_map ..
theorem A1V(K:Ai):Ib (bE K)=K:=by
 unfold bE
 rw [Ib,List.map_map]
 exact List.map_id' K
theorem A4o{K:Ai}{i:Nat}(h:i<(bE K).length):(GK (bE K) i).2=ex (.bool true):=by
 have h':i<K.length:=by rwa [Tn] at h
 unfold GK bE
 rw [List.getD_eq_getElem?_getD,List.getElem?_map,List.getElem?_eq_getElem h']
 rfl
theorem A3t{K:Ai}{i:Nat}(h:i<(bE K).length):(GK (bE K) i).1∈K:=by
 have h':i<K.length:=by rwa [Tn] at h
 unfold GK bE
 rw [List.getD_eq_getElem?_getD,List.getElem?_map,List.getElem?_eq_getElem h']
 exact List.getElem_mem h'
theorem A1U(K:Ai)(m:Nat->Int):Im (bE K) m (ex (.bool true)) none=bE (K++[m]):=by
 unfold bE Im
 rw [List.map_append]
 rfl
abbrev Tj(l:Ai)(n:Nat)(K:Ai):List Ow:=[.var MG [.own 1],.obj (DQ (bE K)),.var 28 ([AZ l].map .d),.var 3 ([ex (.int .i64 (n:Nat))].map .d),.var 97 [.fn clF [0,2,3,4]]]
abbrev ColC(l:Ai)(n:Nat)(K:Ai)(m:Nat->Int):Prop:=Con Tryz.prog clF [.d (Bb (AK m)),.ptr 0 0,.ptr 2 0,.ptr 3 0,.ptr 4 0] (Tj l n K) [] (λr hp'=>∃K',Dfs l n K m K'/\r = .d Cp/\hp'=Tj l n K'++[.dead])
theorem A00(l:Ai)(n:Nat)(K:Ai)(tl:List Ow)(r:AV)(hp':List Ow)(Q:AV->List Ow->Prop)(hr:r = .d Cp)(hh:hp'=(Tj l n K++[.dead])++tl)(hq:Q (.d Cp) (Tj l n K++[.dead])):∃d hp2 tl,r = .d d/\hp'=hp2++tl/\5<=hp2.length/\(∀o∈hp2,Low hp2.length o)/\Q (.d d) hp2:=by
 refine ⟨Cp,_,tl,hr,hh,by simp,λo ho=>?_,hq⟩
 simp only [List.cons_append,List.nil_append,List.mem_cons,List.not_mem_nil,or_false] at ho
 rcases ho with rfl | rfl | rfl | rfl | rfl | rfl
 .refine Low.var λav hav m' ρ s v h=>?_
  rw [List.mem_singleton.1 hav] at h ⊢
  exact ⟨by simp,h.2⟩
 .exact λ_ _ _ _ h=>h
 .exact ZA
 .exact ZA
 .refine Low.var λav hav m' ρ s v h=>?_
  rw [List.mem_singleton.1 hav] at h ⊢
  exact ⟨λi hi=>by
   simp only [List.mem_cons,List.not_mem_nil,or_false] at hi
   simp
   omega,h.2⟩
 .exact Low.dead
theorem PJ{l:Ai}{n:Nat}{K:Ai}{m:Nat->Int}(h:Con Tryz.prog clF [.d (Bb (AK m)),.ptr 0 0,.ptr 2 0,.ptr 3 0,.ptr 4 0] (Tj l n K) [] (λr hp'=>r = .d Cp/\∃K' tl,Dfs l n K m K'/\hp'=(Tj l n K'++[.dead])++tl)):ColC l n K m:=
 h.cut λr hp' ⟨h1,K',tl,h3,h2⟩=>A00 l n K' tl r hp' (λr hp'=>∃K',Dfs l n K m K'/\r = .d Cp/\hp'=Tj l n K'++[.dead]) h1 h2 ⟨K',h3,rfl,rfl⟩
theorem ZZ(l:Ai)(n:Nat)(K:Ai)(m:Nat->Int)(hl:l.length<=1000000)(h:inB l m=true)(hno:∀t∈bE K,¬Eqv m t.1)(hp:K.Pairwise λa b=>¬Eqv a b):ColC l n K m:=by
 refine PJ ?_
 have ci:=KS m l hl
 rw [h] at ci
 refine ID Tryz.func70 rfl (Az Tryz.func70 (by kernel_rfl) (by kernel_rfl)) rfl λs0 pv0 pv1 pv2 pv3 pv4=>?_
 rw [Tryz.ntmps70]
 apply Y1;refine Bx ?_;refine Y0<|Aa<|Y1 ?_;refine Wq (Cy (ao rfl) rfl GO rfl rfl) ?_;refine Wq At ?_;refine Wq (NW hno (ao rfl) rfl (ao rfl) GO A2z) ?_;refine Wm ?_;refine Wg At ?_;refine Wg AQ ?_;refine Wg (Ad (ci)) ?_;refine Wq Bc ?_;refine Y0<|Ct<|Am<|AP ?_
 refine Bv EL rfl ?_ rfl
 exact ⟨rfl,K,_,A0L h hp,rfl⟩
theorem Rk(l:Ai)(n:Nat)(K:Ai)(m:Nat->Int)(i:Nat)(hi:i<(bE K).length)(he:Eqv m (GK (bE K) i).1)(hn:∀j,j<i->¬Eqv m (GK (bE K) j).1)(hpre:PreD l n K m)(hp:K.Pairwise λa b=>¬Eqv a b):ColC l n K m:=by
 refine PJ ?_
 refine ID Tryz.func70 rfl (Az Tryz.func70 (by kernel_rfl) (by kernel_rfl)) rfl λs0 pv0 pv1 pv2 pv3 pv4=>?_
 rw [Tryz.ntmps70]
 apply Y1;refine Bx ?_;refine Y0<|Aa<|Y1 ?_;refine Wq (Cy (ao rfl) rfl GO rfl rfl) ?_;refine Wq At ?_;refine Wq (XI i hi he hn (A4o hi) (ao rfl) rfl (ao rfl) GO) ?_;refine Wm ?_;refine Ws ?_;refine Ws ?_;refine Ws ?_;refine Wq AM ?_;refine Y0<|Ct<|Am<|AP ?_
 refine Bv EL rfl ?_ rfl
 exact ⟨rfl,K,_,A0K ⟨_,A3t hi,he.symm⟩ hpre hp,rfl⟩
theorem A1b(m:Nat->Int)(i:Nat):HV (IG m i) i (IG m i i-1)=m:=by
 funext j
 unfold IG HV
 by_cases h:j=i
 .subst h
  rw [if_pos rfl,if_pos rfl]
  omega
 .rw [if_neg h,if_neg h]
theorem A3o(l:Ai)(n:Nat)(K:Ai)(m:Nat->Int)(hn8:n<=8)(hl:l.length<=1000000)(hs:StdX l n m)(hm:In8 m 0 10000)(hno:∀t∈bE K,¬Eqv m t.1)(hpre:PreD l n K m)(hp:K.Pairwise λa b=>¬Eqv a b)(ih:∀(i:Nat) (K1:Ai),i<n->PreD l n K1 (IG m i)->(K1.Pairwise λa b=>¬Eqv a b)->ColC l n K1 (IG m i)):ColC l n K m:=by
 refine PJ ?_
 have ci:=KS m l hl
 rw [hs.2] at ci
 have hK:∀x∈K,¬Eqv m x:=λx hx=>hno (x,ex (.bool true)) (List.mem_map.2 ⟨x,hx,rfl⟩)
 have hst:=A1U K m
 refine ID Tryz.func70 rfl (Az Tryz.func70 (by kernel_rfl) (by kernel_rfl)) rfl λs0 pv0 pv1 pv2 pv3 pv4=>?_
 rw [Tryz.ntmps70]
 apply Y1;refine Bx ?_;refine Y0<|Aa<|Y1 ?_;refine Wq (Cy (ao rfl) rfl GO rfl rfl) ?_;refine Wq At ?_;refine Wq (NW hno (ao rfl) rfl (ao rfl) GO A2z) ?_;refine Wm ?_;refine Wg At ?_;refine Wg AQ ?_;refine Wg (Ad (ci)) ?_;refine Wq Bc ?_;refine Y0<|Cf<|Ys<|Y1 ?_;refine Wq (Cy (ao rfl) rfl GO rfl rfl) ?_;refine Wq At ?_;refine A0Q none (.no hno) (ao rfl) rfl (ao rfl) rfl GO rfl ?_;refine Y0<|Y1 ?_;refine Wq AQ ?_;refine Wm<|Y0<|AWp.block ?_
 rw [hst]
 skip
 refine AC (λmz σ=>∃i,i<=n/\mz=n-i/\∃K1,DfsI l n K m i K1/\σ=⟨[(1,.ptr 0 0),(2,.ptr 2 0),(3,.ptr 3 0),(4,.ptr 4 0),(5,.ptr 6 0),(17,.d (ex (.int .i64 (n:Nat)))),(18,.d (ex (.int .i64 (i:Nat))))],[.var MG [.own 1],.obj (DQ (bE K1)),.var 28 ([AZ l].map .d),.var 3 ([ex (.int .i64 (n:Nat))].map .d),.var 97 [.fn clF [0,2,3,4]],.pin [(pv0,.own 0),(pv1,.own 1),(pv2,.own 2),(pv3,.own 3),(pv4,.own 4)],.var 55 ((AK m).map .d)]⟩) ?le ⟨0,by omega,rfl,K++[m],DfsI.start hs hK hp,rfl⟩ ?round
 case le=>exact Ah (by exact Yp<|Yp<|Yp<|Yp<|Yp<|Yd<|Yd<|FrLe.nil) (by exact HpLe.cons (Ce rfl)<|HpLe.cons (OwLe.obj rfl)<|Yv<|Yv<|HpLe.cons (Ce rfl)<|HpLe.cons (Bi rfl)<|Yv<|HpLe.nil)
 case round=>
  rintro mz _ ⟨i,hi,rfl,K1,hD,rfl⟩
  by_cases hlt:i<n
  .have hi8:i<8:=by omega
   have hmi:=hm i hi8
   have cc:=ih i K1 hlt (hD.pre hpre hi8) hD.pw
   apply Y1;refine Wq Ak ?_;refine Y0<|Aa<|Ct<|Ys<|Aa<|AWp.block<|Y1<|Wm<|Wa<|Y0<|Y1<|Wm ?_;refine Wq BE ?_;refine Wq BI ?_;refine Wq CC ?_;refine Wq BE ?_;(refine DW (ao rfl) (ao rfl) rfl (Ac rfl) (by first | exact CH rfl | exact One.sl | exact Ei) (SetAt.mon (by first | omega | (simp;omega))) rfl ?_);refine Y0<|Y1 ?_;refine Wq (Cy (ao rfl) rfl Uo rfl rfl) ?_;refine Wq At ?_
   refine Kk [0,1,2,3,4] [0,2,3,4] (cc) ?_
   rintro _ _ ⟨K2,hD2,rfl,rfl⟩
   refine Kr ?_
   try simp only [Bd,Bt]
   have hz:HV m i (m i+1) i=m i+1:=if_pos rfl
   refine Y0<|AWp.region<|Wm ?_;refine Wq BE ?_;refine Wq BI ?_;refine Wq DV ?_;refine Wq BE ?_;(refine DW (ao rfl) (ao rfl) rfl (Ac rfl) (by first | exact CH rfl | exact One.sl | exact Ei) (SetAt.mon (by first | omega | (simp;omega))) rfl ?_);refine AWl.nil<|Ag<|Yn<|AWp.region ?_;refine Wq AD ?_;refine Wm<|AWl.nil ?_
   refine ALoop.next (n-(i+1)) (by omega) ⟨i+1,by omega,rfl,K2,hD.step hD2,rfl⟩ ?_
   exact Ah (by exact Yp<|Yp<|Yp<|Yp<|Yp<|Yd<|Yd<|FrLe.nil) (by exact HpLe.cons (Ce rfl)<|HpLe.cons (OwLe.obj rfl)<|Yv<|Yv<|HpLe.cons (Ce rfl)<|HpLe.cons (Bi rfl)<|HpLe.cons (CQ (by rw [A1b]))<|HpLe.nil)
  .obtain rfl:i=n:=by omega
   apply Y1;refine Wq Aj ?_;refine Y0<|Aa<|Cf<|AA<|Aq<|Ar<|ABlock.hit ?_
   refine Hs EL rfl ?_ rfl
   exact ⟨rfl,K1,_,hD.done hn8 (λj hj=>(hm j hj).1),rfl⟩
theorem Md{x:Nat->Int}{B:Nat}:∀(k i:Nat),(∀j,i<=j->j<i+k->x j<=B)->BQ k i x<=k*B
 | 0,_,_=>Nat.zero_le _
 | k+1,i,h=>by
  have h1:=h i (Nat.le_refl i) (by omega)
  have h2:=Md (B:=B) k (i+1) λj a b=>h j (by omega) (by omega)
  rw [BQ,Nat.succ_mul]
  omega
theorem A1P(l:Ai)(n B:Nat)(hn8:n<=8)(hl:l.length<=1000000)(hB:∀y,StdX l n y->∀j,j<8->y j<=B)(hBs:B<=1000):∀(k:Nat) (K:Ai) (m:Nat->Int),8*B+1<=BQ 8 0 m+k->(∀j,j<8->0<=m j/\m j<=B+1/\(n<=j->m j=0))->PreD l n K m->(K.Pairwise λa b=>¬Eqv a b)->ColC l n K m:=by
 intro k
 induction k with
 | zero=>
  intro K m hk hm hpre hp
  rcases ZL (bE K) m with h | ⟨i,h1,h2,h3⟩
  .cases hi:inB l m with
   | true=>exact ZZ l n K m hl hi h hp
   | false=>
    have hs:StdX l n m:=⟨λj hj=>⟨(hm j hj).1,(hm j hj).2.2⟩,hi⟩
    have:=Md (x:=m) (B:=B) 8 0 λj _ h=>hB m hs j (by omega)
    omega
  .exact Rk l n K m i h1 h2 h3 hpre hp
 | succ k ih=>
  intro K m hk hm hpre hp
  rcases ZL (bE K) m with h | ⟨i,h1,h2,h3⟩
  .cases hi:inB l m with
   | true=>exact ZZ l n K m hl hi h hp
   | false=>
    have hs:StdX l n m:=⟨λj hj=>⟨(hm j hj).1,(hm j hj).2.2⟩,hi⟩
    refine A3o l n K m hn8 hl hs (λj hj=>?_) h hpre hp λi K1 hin hpre1 hp1=>ih K1 (IG m i) ?_ (λj hj=>?_) hpre1 hp1
    .have:=hm j hj
     have:=hB m hs j hj
     omega
    .rw [Pi m i (λj hj=>(hm j hj).1) (by omega)]
     omega
    .have h1:=hm j hj
     have h2:=hB m hs j hj
     rw [FX]
     split
     .rename_i e
      subst e
      omega
     .omega
  .exact Rk l n K m i h1 h2 h3 hpre hp
section
variable {P:Program} {s0:An} {n:Nat} {ops:Array Oper} {Q:Exit->AS->Prop} {rest:List Oper} {fr:List (Nat×AV)} {hp hp':List Ow} {ty:TypeId} {ps:String} {af:Array Edge}
theorem A2r{T:TypeId}{x:Operand}{av:AV}{k t:Nat}(hx:AS.arg ⟨fr,hp⟩ x=av)(h1:One hp av)(hT:Nat.beq T 136=false)(hd:Nat.blt t n=true)(hk:Fk hp=some k)(hs:Dt hp (.var T [av])=some hp')(h:AWl P s0 n ops Q rest ⟨(t,.ptr k 0)::fr,hp'⟩):AWl P s0 n ops Q (⟨some t,.box T x,ty,ps,af,none⟩::rest) ⟨fr,hp⟩:=by
 have hT':T≠136:=Nat.ne_of_beq_eq_false hT
 rw [CI hs] at h
 have hk':=Ea hk
 subst hk'
 refine AWl.step rfl λs ρ a hst K hK=>?_
 have hv:AVr hp.length ρ s av (a.eval x):=by
  have:=hst.arg x
  rw [hx] at this
  exact this
 have h1v:(a.eval x).oneCell'=true:=h1 0 ρ s _ hst.hp hv
 obtain ⟨u,e1⟩:∃u,a.eval x=u:=⟨_,rfl⟩
 rw [e1] at hv h1v
 have hcs:u.cells=#[u]:=by cases u<;>first | rfl | cases h1v
 have hrun:(execOp a.eval ⟨some t,.box T x,ty,ps,af,none⟩).run P s.w = .ok (.value (.pointer (some ⟨s.w.heap.size,0,none⟩))) (s.w.alloc (.cells #[u] T)):=by
  simp only [execOp,e1,Instr.box,Sem.run_bind,EI,Result.andThen_ok,Sem.run_pure,hcs]
 unfold Oper.wp
 rw [hrun]
 have hle:=s.le_mk' #[u] T 0 hT'
 refine hK _ _ _ h ⟨s.mk' #[u] T 0,_,rfl,hst.new (dst:=some t) (r:=.ptr hp.length 0) (ow:=.var T [av]) hle (FZ (by simpa [Sn] using hd)) (u:=.pointer (some ⟨s.w.heap.size,0,none⟩)) ⟨Nat.lt_succ_self hp.length,s.w.heap.size,by simp,rfl⟩ ?_ λb hb=>by cases hb;exact Nat.le_refl _⟩
 refine ⟨s.w.heap.size,#[u],by simp,Nat.zero_le _,heap_alloc_new s.w _,by simp,hT',λk hk=>absurd (hst.ok.lt _ _ hk) (Nat.lt_irrefl _),λk av' hk=>?_⟩
 cases k with
 | zero=>
  cases hk
  exact ⟨u, by simp, h1v, (hv.chg hle.chg).mono (Nat.le_succ _) fun i hi => by
   have:i≠hp.length:=Nat.ne_of_lt hi
   simp [this]⟩
 | succ k=>cases hk
theorem A0G{id:Nat}{E:List KD}(h:hp[id]? = some (.obj (DQ E))):One hp (.own id):=λbase ρ s v hh hv=>by
 obtain ⟨b,e,_⟩:=KK hh hv h
 rw [e]
 rfl
end
theorem WN(E:List KD):Con Tryz.prog 73 [.own 0] [.obj (DQ E)] [] (λr hp'=>r = .fn 125 [2]/\hp'=[.obj (DQ E),.dead,.var MG [.own 0]]):=by
 refine BK Tryz.func73 rfl (Az Tryz.func73 (by kernel_rfl) (by kernel_rfl)) rfl λs0 pv0=>?_
 rw [Tryz.ntmps73]
 apply Y1;refine A2r (ao rfl) (A0G rfl) rfl rfl rfl rfl ?_;refine Wa<|Y0<|Y1 ?_;refine Wq (FW [2] rfl) ?_;refine Wa<|Y0<|Am ?_
 refine Bv (RetsA.one rfl) rfl ?_ rfl
 exact ⟨rfl,rfl⟩
theorem PT(E:List KD)(hE:E.length<=1000000):Con Tryz.prog 72 [.fn 125 [0],.d (ex (.func (.func 74) #[] #[]))] [.var MG [.own 1],.obj (DQ E)] [] (λr hp'=>∃(S:Ai),S.Perm (Ib E)/\(S.Pairwise λa b=>lx a b<=0)/\r = .d (AZ S)/\hp'=[.var MG [.own 1],.obj (DQ E),.dead]):=
 (PU E hE).cut fun r hp' ⟨S, tl, h1, h2, h3, h4, _⟩ => ⟨AZ S, [.var MG [.own 1], .obj (DQ E), .dead], tl, h3, h4, by simp, fun o ho => by
  simp only [List.mem_cons,List.not_mem_nil,or_false] at ho
  rcases ho with rfl | rfl | rfl
  .refine Low.var λav hav m' ρ s v h=>?_
   rw [List.mem_singleton.1 hav] at h ⊢
   exact ⟨by simp,h.2⟩
  .exact λ_ _ _ _ h=>h
  .exact Low.dead,⟨S,h1,h2,rfl,rfl⟩⟩
def IsStd(l:Ai)(n:Nat)(S:Ai):Prop:=(S.Pairwise λa b=>lx a b<0)/\∀x,MemE x S↔StdX l n x
theorem Xl(l:Ai)(n B:Nat)(d deg:Int)(hn8:n<=8)(hl:l.length<=1000)(hB:∀y,StdX l n y->∀j,j<8->y j<=B)(hBs:B<=1000)(hcnt:∀K:Ai,(∀x,MemE x K↔StdX l n x)->(K.Pairwise λa b=>¬Eqv a b)->K.length<=1000000)(hd:d<=0)(hdeg:deg<=1000)(ck:Abs Tryz.prog 46 [AZ l,ex (.int .i64 (n:Nat))] (ex (.int .i64 0)))(cd:Abs Tryz.prog 55 [AZ l,ex (.int .i64 (n:Nat))] (ex (.int .i64 d)))(cg:Abs Tryz.prog 56 [AZ l,ex (.int .i64 (n:Nat))] (ex (.int .i64 deg))):Abs Tryz.prog 28 [AZ l,ex (.int .i64 (n:Nat))] (BC [Gc (IsStd l n) AZ,ex (.int .i64 0)]):=by
 have hd':¬0<d:=by omega
 have hdeg':¬1000<deg:=by omega
 have cc:=A1P l n B hn8 (by omega) hB hBs (8*B+1) [] (λ_=>0) (by omega) (λj hj=>⟨Int.le_refl 0,by omega,λ_=>rfl⟩) (PreD.top l n _) List.Pairwise.nil
 refine Ab Tryz.func28 λs0=>?_
 rw [Tryz.ntmps28]
 apply Y1;refine VW (ao rfl) One.sl rfl rfl rfl rfl ?_;refine VX (ao rfl) rfl rfl rfl rfl rfl ?_;refine Wa<|Wa<|Y0<|Aa<|Y1 ?_;refine Wq AQ ?_;refine Wq AQ ?_;refine Wq (Ad (ck)) ?_;refine Wa<|Y0<|Y1<|Wm ?_;refine Wq Aj ?_;refine Y0<|Cf<|Ys<|Aa<|Y1 ?_;refine Wq AQ ?_;refine Wq AQ ?_;refine Wq (Ad (cd)) ?_;refine Wq Aj ?_;refine Y0<|Cf<|Ys<|Aa<|Y1 ?_;refine Wq AQ ?_;refine Wq AQ ?_;refine Wq (Ad (cg)) ?_;refine Wq Aj ?_;refine Y0<|Cf<|Ys<|Y1 ?_;refine A0R rfl rfl rfl ?_;refine MD GO rfl rfl rfl rfl rfl rfl ?_;refine JG (ao rfl) (ao rfl) rfl GO (A0G rfl) rfl rfl ?_;refine Y0<|Y1 ?_;refine MD Uo rfl rfl rfl rfl rfl rfl ?_;refine Y0<|Y1 ?_;refine Wq (FW [3,0,1,4] rfl) ?_;refine JG (ao rfl) (ao rfl) rfl Uo One.fn rfl rfl ?_;refine Y0<|Y1 ?_;refine Wq (Cy (ao rfl) rfl Uo rfl rfl) ?_;(refine CD rfl rfl ?_;(refine FK (Ac rfl) (Ac rfl) rfl rfl ?_;(repeat ((first | refine ⟨_,AW (ao rfl),?_⟩ | refine ⟨_,Po rfl,?_⟩);refine ⟨_,rfl,?_⟩));refine ⟨_,rfl,?_⟩))
 refine Kk [3,2,0,1,4] [0,2,3,4] (cc) ?_
 rintro _ _ ⟨K,hD,rfl,rfl⟩
 refine Kr ?_
 try simp only [Bd,Bt]
 obtain ⟨hk1,hk2⟩:=hD.top
 have hKl:=hcnt K hk1 hk2
 refine Y0<|Y1 ?_;refine Wq (Cy (ao rfl) rfl GO rfl rfl) ?_
 refine Kk [2] [] (WN (bE K)) ?_
 rintro _ _ ⟨rfl,rfl⟩
 refine Kr ?_
 try simp only [Bd,Bt]
 refine Kk [7,2] [] (PT (bE K) (by rw [Tn];exact hKl)) ?_
 rintro _ _ ⟨S,hS1,hS2,rfl,rfl⟩
 refine Kr ?_
 try simp only [Bd,Bt]
 rw [A1V] at hS1
 obtain ⟨hs1,hs2⟩:=SA hS1 hS2 hk2
 have hstd:IsStd l n S:=⟨hs1,λx=>(hs2 x).trans (hk1 x)⟩
 refine Wa<|Wa<|Y0<|Am ?_
 exact AN (BA (ResV.tmp rfl rfl) (ResV.tmp rfl rfl) (Be (λs v h=>⟨S,hstd,h⟩) (D.le.refl _)))
abbrev EF(l:Ai)(n:Nat):Int:=Fe (DJ l (2^n))
def Ti(l:Ai)(n N:Nat)(f:Nat->Int):Int:=if EF l n<0 then 0 else Ba (cN N f (n-(EF l n).toNat)).1 (BU (n-(EF l n).toNat) f)
structure HilC(l:Ai)(n N:Nat)(f:Nat->Int):Prop where
 ck:Abs Tryz.prog 46 [AZ l,ex (.int .i64 (n:Nat))] (ex (.int .i64 0))
 num:NumL l N f
 nle:N<=6145
 bnd:∀i,-4096<=f i/\f i<=4096
 cn:Abs Tryz.prog 47 [AZ l] (nD N f)
 cd:Abs Tryz.prog 55 [AZ l,ex (.int .i64 (n:Nat))] (ex (.int .i64 (EF l n)))
 cc:∀Dm:Nat,EF l n=Dm->Abs Tryz.prog 58 [AZ l,ex (.int .i64 (n:Nat)),ex (.int .i64 (Dm:Nat))] (nD (cN N f (n-Dm)).1 (BU (n-Dm) f))
 cg:Abs Tryz.prog 56 [AZ l,ex (.int .i64 (n:Nat))] (ex (.int .i64 (Ti l n N f)))
 dle:EF l n<=n
 far:∀Dm:Nat,EF l n=Dm->∀i,(cN N f (n-Dm)).1<=i->BU (n-Dm) f i=0
 pos:∀Dm:Nat,EF l n=Dm->0<Ba (cN N f (n-Dm)).1 (BU (n-Dm) f)
 qb:∀Dm:Nat,EF l n=Dm->∀j,-9223372036854775808<=BU (n-Dm) f j/\BU (n-Dm) f j<=9223372036854775807
theorem Yu(S:Nat->Bool):∀(k i:Nat),IH k i S<=k
 | 0,_=>Nat.le_refl 0
 | k+1,i=>by
  have:=Yu S k (i+1)
  rw [IH]
  split<;>omega
theorem Uw:∀(k i:Nat),IH k i (λ_=>true)=k
 | 0,_=>rfl
 | k+1,i=>by
  rw [IH,Uw k (i+1),if_pos rfl]
  omega
theorem FS.sum_eq{p:Nat->Int}{B M:Nat}{c:Int}(h:FS p B c)(hM:∀i,M<=i->p i=0):Ba M p=c:=by
 have h1:FS p M (Ba M p):=⟨hM,rfl⟩
 have h2:=h1.more (B':=max M B) (by omega)
 have h3:=h.more (B':=max M B) (by omega)
 exact h2.2.symm.trans h3.2
theorem A4m{l:Ai}{n:Nat}(hn:n<=8)(h2:∀y∈l,SupN n y):EF l n<=n:=by
 rcases (Pf hn h2).2 with h | ⟨S,_,h⟩
 .have:EF l n = -1:=h
  omega
 .have:=Yu S n 0
  have h:EF l n=_:=h
  omega
theorem Pa(k Dg n:Nat)(l:Ai)(hn:n<=8)(hk:k<=12)(hl:l.length<=k)(hDg:Dg<=512)(h1:∀y∈l,In8 y 0 64)(h2:∀y∈l,SupN n y)(hg:∀y∈l,BQ 8 0 y<=Dg)(hbig:(2:Int)^k*(((Dg*k:Nat):Int)+1)^(n+1)<=9223372036854775807):∃N f,HilC l n N f:=by
 obtain ⟨N,f,hcn,hnum,hN,hb,hw⟩:=Em Dg k hDg hk l hl h1 hg
 have hDk:Dg*k<=512*12:=Nat.mul_le_mul hDg hk
 have hpk:(2:Int)^k<=4096:=by
  have h2:2^k<=2^12:=Nat.pow_le_pow_right (by decide) hk
  exact_mod_cast h2
 have hB:Bnd f (Dg*k) (2^k):=λt _=>hb t
 have hbg:∀j,j<=n+1->(2:Int)^k*(((Dg*k:Nat):Int)+1)^j<=9223372036854775807:=λj hj=>Np hB.pos hbig hj
 have ck:=A01 l n hn (by omega) h1 h2
 have cd:=Xa l n hn (by omega)
 have hdim:=Pf hn h2
 have hdl:=A4m hn h2
 obtain ⟨c0,hser⟩:=OO hn h2 hnum.num
 have hfs:∀Dm:Nat,EF l n=Dm->∃B,FS (BU (n-Dm) f) B c0/\0<c0:=λDm hDm=>by
  rcases hser with ⟨g1,_,_⟩ | ⟨m,p,B,g1,g2,g3,g4⟩
  .have g1:EF l n = -1:=g1
   omega
  .have g1:EF l n=(m:Int):=g1
   obtain rfl:m=Dm:=by omega
   have e:BU (m+(n-m)) f=BU m p:=by rw [show m+(n-m)=n by omega];exact g4
   exact ⟨B,by rw [Wu e];exact g2,g3⟩
 have hfar:∀Dm:Nat,EF l n=Dm->∀i,(cN N f (n-Dm)).1<=i->BU (n-Dm) f i=0:=λDm hDm=>by
  obtain ⟨B,h3,_⟩:=hfs Dm hDm
  exact A06 hnum.far h3 _ (Nat.le_refl _)
 have hsum:∀Dm:Nat,EF l n=Dm->Ba (cN N f (n-Dm)).1 (BU (n-Dm) f)=c0/\0<c0:=λDm hDm=>by
  obtain ⟨B,h3,h4⟩:=hfs Dm hDm
  exact ⟨h3.sum_eq (hfar Dm hDm),h4⟩
 have hM:∀j,(cN N f j).1<=Dg*k+1:=λj=>Nat.le_trans (Mi N f j) (by omega)
 have hcc:∀Dm:Nat,EF l n=Dm->Abs Tryz.prog 58 [AZ l,ex (.int .i64 (n:Nat)),ex (.int .i64 (Dm:Nat))] (nD (cN N f (n-Dm)).1 (BU (n-Dm) f)):=λDm hDm=>by
  by_cases hr:n-Dm=0
  .obtain rfl:Dm=n:=by omega
   rw [Nat.sub_self]
   exact Xf l Dm N f (by omega) hcn
  .rcases hw with rfl | rfl | hw
   .exfalso
    have:=hdim.1 (λ_=>true) λa ha=>by cases ha
    rw [Uw] at this
    have:(n:Int)<=EF [] n:=this
    omega
   .exfalso
    obtain ⟨a,ha,h0⟩:=hnum.whole λy hy j hj=>⟨((h2 y hy) j hj).1,λh=>by omega⟩
    rcases hdim.2 with h | ⟨S,h,_⟩
    .have h:EF l n = -1:=h
     omega
    .obtain ⟨j,_,hj,_,hp⟩:=h a ha
     rw [h0 j (by omega)] at hp
     omega
   .exact A02 l n Dm (n-Dm) N (Dg*k) f (2^k) (by omega) (by omega) (by omega) (by omega) hB (hbg _ (by omega)) hw
 have hqb:∀Dm:Nat,EF l n=Dm->∀j,-9223372036854775808<=BU (n-Dm) f j/\BU (n-Dm) f j<=9223372036854775807:=λDm hDm j=>by
  by_cases hj:j<=Dg*k
  .have h3:=hB.sumn (n-Dm) j hj
   have h4:=hbg (n-Dm) (by omega)
   omega
  .rw [hfar Dm hDm j (by have:=hM (n-Dm); omega)]
   omega
 refine ⟨N,f,ck,hnum,by omega,λi=>by have:=hb i;omega,hcn,cd,hcc,?_,hdl,hfar,λDm hDm=>by rw [(hsum Dm hDm).1];exact (hsum Dm hDm).2,hqb⟩
 unfold Ti
 have hd0:=(Jp (DJ l (2^n))).1
 by_cases hneg:EF l n<0
 .rw [if_pos hneg]
  have e:EF l n = -1:=by
   have:-1<=EF l n:=hd0
   omega
  have cd':=cd
  have e':Fe (DJ l (2^n)) = -1:=e
  rw [e'] at cd'
  exact ZX l n cd'
 .rw [if_neg hneg]
  obtain ⟨Dm,hDm⟩:∃Dm:Nat,EF l n=Dm:=⟨(EF l n).toNat,by omega⟩
  rw [hDm,Int.toNat_natCast]
  have cd':=cd
  have e':Fe (DJ l (2^n))=Dm:=hDm
  rw [e'] at cd'
  refine ZY l n Dm _ _ cd' (hcc Dm hDm) (by have:=hM (n-Dm);omega) λj hj=>?_
  cases j with
  | zero=>show -9223372036854775808<=(0:Int)/\(0:Int)<=9223372036854775807;omega
  | succ j=>
   have h3:=(hB.sumn (n-Dm)).sum j (by have:=hM (n-Dm);omega)
   have h4:=hbg (n-Dm+1) (by omega)
   rw [Int.pow_succ,<-Int.mul_assoc] at h4
   have h5:pS (BU (n-Dm) f) j=Ba (j+1) (BU (n-Dm) f):=rfl
   rw [h5] at h3
   omega
theorem Uu(j:Nat):∀(k i:Nat),IH k i (λt=>decide (t=j))=if i<=j/\j<i+k then 1 else 0
 | 0,i=>by rw [if_neg (by omega)];rfl
 | k+1,i=>by
  rw [IH,Uu j k (i+1)]
  by_cases e:i=j
  .subst e
   rw [if_pos (by simp),if_neg (by omega),if_pos (by omega)]
  .rw [if_neg (by simpa using e)]
   by_cases h:i<=j/\j<i+(k+1)
   .rw [if_pos h,if_pos (by omega)]
   .rw [if_neg h,if_neg (by omega)]
theorem Sw{l:Ai}{n E:Nat}(hn:n<=8)(h2:∀y∈l,SupN n y)(hE:∀a∈l,∀j,j<8->a j<=(E:Int)+1)(hd:EF l n<=0)(x:Nat->Int)(hx:StdX l n x)(j:Nat)(hj:j<8):x j<=E:=by
 by_cases hjn:j<n
 .have hno:¬MA n 0 l (λt=>decide (t=j)):=λh=>by
   have:=(Pf hn h2).1 _ h
   rw [Uu,if_pos (by omega)] at this
   have:(1:Int)<=EF l n:=this
   omega
  obtain ⟨a,h⟩:=Classical.not_forall.1 hno
  obtain ⟨ha,h⟩:=Classical.not_imp.1 h
  have hai:∀i,i<n->i≠j->a i<=0:=λi hi hne=>by
   refine Classical.byContradiction λhc=>h ⟨i,Nat.zero_le i,by omega,by simpa using hne,by omega⟩
  have hnd:¬Dv a x:=λhdv=>by
   have:=Dp.2 ⟨a,ha,hdv⟩
   rw [hx.2] at this
   cases this
  obtain ⟨i,hi⟩:=Classical.not_forall.1 hnd
  obtain ⟨hi8,hi⟩:=Classical.not_imp.1 hi
  have hx0:=(hx.1 i hi8).1
  by_cases e:i=j
  .subst e
   have:=hE a ha i hi8
   omega
  .by_cases hin:i<n
   .have:=hai i hin e
    omega
   .have:=(h2 a ha i hi8).2 (by omega)
    omega
 .rw [(hx.1 j hj).2 (by omega)]
  omega
theorem UA{l:Ai}{n B:Nat}(hn:n<=8)(hB:∀x,StdX l n x->BQ n 0 x<B):(∀x,MemE x (MJ l n B)↔StdX l n x)/\(MJ l n B).Pairwise λa b=>¬Eqv a b:=by
 have hst:∀{m:Nat->Int},m∈MJ l n B->StdX l n m:=λ{m} h=>by
  obtain ⟨h1,_,h3⟩:=GR.1 h
  exact ⟨λj hj=>⟨h1.1 j,λh=>h1.2 j (by omega)⟩,h3⟩
 refine ⟨λx=>⟨λ⟨a,ha,e⟩=>(hst ha).congr e,λhx=>?_⟩,?_⟩
 .have hc:=hx.congr (Jr x).symm
  refine ⟨λj=>if j<n then Gl x j else 0,GR.2 ⟨⟨λj=>?_,λj hj=>?_⟩,?_,?_⟩,λj hj=>?_⟩
  .show 0<=if j<n then Gl x j else 0
   split
   .by_cases h8:j<8
    .exact (hc.1 j h8).1
    .unfold Gl
     rw [if_neg h8]
     omega
   .omega
  .show (if j<n then Gl x j else 0)=0
   rw [if_neg (by omega)]
  .rw [HD (m':=Gl x) λj _ hj=>if_pos (by omega)]
   exact hB _ hc
  .have e:Eqv x λj=>if j<n then Gl x j else 0:=λj hj=>by
    show x j=if j<n then Gl x j else 0
    split
    .exact (Jr x j hj).symm
    .exact (hx.1 j hj).2 (by omega)
   exact (hx.congr e).2
  .show (if j<n then Gl x j else 0)=x j
   split
   .exact Jr x j hj
   .exact ((hx.1 j hj).2 (by omega)).symm
 .refine List.Pairwise.imp_of_mem ?_ (Ln l n B)
  intro a b ha hb hne e
  refine hne (funext λj=>?_)
  by_cases h8:j<8
  .exact e j h8
  .obtain ⟨h1,_,_⟩:=GR.1 ha
   obtain ⟨h2,_,_⟩:=GR.1 hb
   rw [h1.2 j (.inr (by omega)),h2.2 j (.inr (by omega))]
theorem A1F{l:Ai}{n d:Nat}(h:∀x,StdX l n x->BQ n 0 x≠d):hN n d l=0:=by
 rw [<-QT,OV]
 have:(rM n 0 d).filter (λm=>!inB l m)=[]:=by
  rw [List.filter_eq_nil_iff]
  intro m hm hi
  obtain ⟨h1,h2⟩:=Gr.1 hm
  exact h m ⟨λj hj=>⟨h1.1 j,λh=>h1.2 j (by omega)⟩,by simpa using hi⟩ h2
 rw [this]
 rfl
theorem Yz{p:Nat->Int}{M B:Nat}(hM:∀i,M<=i->p i=0)(hB:∀i,B<=i->p i=0):Ba M p=Ba B p:=(show FS p B (Ba B p) from ⟨hB,rfl⟩).sum_eq hM
theorem HF{l K:Ai}{n N B:Nat}{f:Nat->Int}(hc:HilC l n N f)(hn:n<=8)(h2:∀y∈l,SupN n y)(hd:EF l n<=0)(hK:∀x,MemE x K↔StdX l n x)(hp:K.Pairwise λa b=>¬Eqv a b)(hB:∀x,StdX l n x->BQ n 0 x<B):Ti l n N f=((K.length:Nat):Int):=by
 rw [Wl hn hK hp hB]
 have hz:∀i,B<=i->hN n i l=0:=λi hi=>A1F λx hx e=>by
  have:=hB x hx
  omega
 have hnum:∀d,BU n f d=hN n d l:=λd=>hc.num.num n hn h2 d
 have hge:-1<=EF l n:=(Jp _).1
 by_cases h0:EF l n=0
 .have h1:EF l n=((0:Nat):Int):=h0
  unfold Ti
  rw [if_neg (by omega),h0]
  show Ba (cN N f (n-0)).1 (BU (n-0) f)=_
  have h3:=hc.far 0 h1
  have e:BU (n-0) f=λd=>hN n d l:=by rw [Nat.sub_zero];exact funext hnum
  rw [e] at h3 ⊢
  exact Yz h3 hz
 .have h1:EF l n = -1:=by omega
  unfold Ti
  rw [if_pos (by omega)]
  obtain ⟨c,hs⟩:=OO hn h2 hc.num.num
  rcases hs with ⟨_,_,h3⟩ | ⟨m,_,_,h3,_⟩
  .refine (CF λd _=>?_).symm
   rw [<-hnum,h3]
  .have h3:EF l n=(m:Int):=h3
   omega
theorem Uz{l:Ai}{n N E:Nat}{f:Nat->Int}(hc:HilC l n N f)(hn:n<=8)(h2:∀y∈l,SupN n y)(hE:∀a∈l,∀j,j<8->a j<=(E:Int)+1)(hd:EF l n<=0):(∀S,IsStd l n S->Ti l n N f=((S.length:Nat):Int))/\Ti l n N f<=(((E+1)^n:Nat):Int):=by
 have hb:=Sw hn h2 hE hd
 have hB:∀x,StdX l n x->BQ n 0 x<n*E+1:=λx hx=>by
  have:=Md (x:=x) (B:=E) n 0 λj _ h=>hb x hx j (by omega)
  omega
 have hpw:∀S,IsStd l n S->S.Pairwise λa b=>¬Eqv a b:=λS hS=>hS.1.imp λ{a b} h e=>by
  rw [EO.2 e] at h
  exact absurd h (by decide)
 refine ⟨λS hS=>HF hc hn h2 hd hS.2 (hpw S hS) hB,?_⟩
 obtain ⟨g1,g2⟩:=UA hn hB
 rw [HF hc hn h2 hd g1 g2 hB]
 have:=Ox hn (λx hx=>(g1 x).1 ⟨x,hx,Eqv.refl x⟩) g2 hb
 exact_mod_cast this
theorem Rt{l:Ai}{n N E:Nat}{f:Nat->Int}(hc:HilC l n N f)(hn:n<=8)(hl:l.length<=1000)(h2:∀y∈l,SupN n y)(hE:∀a∈l,∀j,j<8->a j<=(E:Int)+1)(hE2:E<=1000)(hd:EF l n<=0)(hbox:(E+1)^n<=1000):Abs Tryz.prog 28 [AZ l,ex (.int .i64 (n:Nat))] (BC [Gc (IsStd l n) AZ,ex (.int .i64 0)]):=by
 have hb:=Sw hn h2 hE hd
 refine Xl l n E _ _ hn hl hb hE2 (λK hK hp=>?_) hd ?_ hc.ck hc.cd hc.cg
 .have:=Ox hn (λx hx=>(hK x).1 ⟨x,hx,Eqv.refl x⟩) hp hb
  omega
 .have:=(Uz hc hn h2 hE hd).2
  omega
theorem IsStd.same{l:Ai}{n:Nat}{S S':Ai}(h:IsStd l n S)(h':IsStd l n S'):AZ S=AZ S':=by
 have hd:∀{S:Ai},(S.Pairwise λa b=>lx a b<0)->Rv S.reverse:=λ{S} h=>by
  unfold Rv
  rw [List.pairwise_reverse]
  refine h.imp λ{a b} h=>?_
  rw [DR]
  omega
 have hm:∀(S:Ai) x,MemE x S.reverse↔MemE x S:=λS x=>⟨λ⟨a,ha,e⟩=>⟨a,List.mem_reverse.1 ha,e⟩,λ⟨a,ha,e⟩=>⟨a,List.mem_reverse.2 ha,e⟩⟩
 have hs:=JK (hd h.1) (hd h'.1) λx=>(hm S x).trans ((h.2 x).trans ((h'.2 x).symm.trans (hm S' x).symm))
 have key:∀{l l':Ai},SameM l l'->l.map AK=l'.map AK:=by
  intro l
  induction l with
  | nil=>
   intro l' h
   cases l' with
   | nil=>rfl
   | cons b l'=>exact h.elim
  | cons a l ih=>
   intro l' h
   cases l' with
   | nil=>exact h.elim
   | cons b l'=>rw [List.map_cons,List.map_cons,Qp h.1,ih h.2]
 have h3:=congrArg List.reverse (key hs)
 rw [List.map_reverse,List.map_reverse,List.reverse_reverse,List.reverse_reverse] at h3
 rw [AZ,AZ,h3]
theorem Ot(F:Nat->Rat):∀n t,Du F (Dj F n) t=Du F n t
 | 0,_=>rfl
 | n+1,t=>by
  rw [Dj]
  split
  .rename_i h
   rw [Ot F n t]
   unfold Du
   by_cases h1:t<n
   .rw [if_pos h1,if_pos (by omega)]
   .rw [if_neg h1]
    split
    .obtain rfl:t=n:=by omega
     exact h.symm
    .rfl
  .rfl
theorem A1Z(F G:Nat->Rat)(m k t:Nat):Du (JZ F G m k) (max m k) t=Du F m t+Du G k t:=by
 have e0:JZ F G m k t=if t<k then Du F m t+G t else Du F m t:=by
  show (if 0<=t/\t<0+k then Du F m t+q1*G (t-0) else Du F m t)=_
  have e1:q1*G (t-0)=G t:=Rat.one_mul _
  rw [e1]
  by_cases h:t<k
  .rw [if_pos ⟨Nat.zero_le _,by omega⟩,if_pos h]
  .rw [if_neg (by omega),if_neg h]
 show (if t<max m k then JZ F G m k t else q0)=Du F m t+if t<k then G t else q0
 rw [e0]
 by_cases h2:t<k
 .rw [if_pos (by omega),if_pos h2,if_pos h2]
 .rw [if_neg h2,if_neg h2]
  have e1:Du F m t+q0=Du F m t:=Rat.add_zero _
  rw [e1]
  by_cases h1:t<max m k
  .rw [if_pos h1]
  .rw [if_neg h1]
   exact (if_neg (by omega)).symm
def EN(f:Nat->Rat)(t:Nat):Rat:=if t=0 then q0 else f (t-1)
theorem Qo(F G:Nat->Rat):∀i t,Iq F G 2 i t=Du F i t*G 0+EN (Du F i) t*G 1
 | 0,t=>by
  unfold Iq EN Du
  rw [if_neg (Nat.not_lt_zero _),if_neg (Nat.not_lt_zero _)]
  have e:(if t=0 then q0 else q0)=q0:=by split<;>rfl
  rw [e]
  show (0:Rat)=0*_+0*_
  rw [Rat.zero_mul,Rat.zero_mul,Rat.add_zero]
 | i+1,t=>by
  rw [Iq]
  unfold EX
  rw [Qo F G i t]
  by_cases h:i<=t/\t<i+2
  .rw [if_pos h]
   by_cases h2:t=i
   .subst h2
    have e1:Du F t t=0:=if_neg (Nat.lt_irrefl t)
    have e2:Du F (t+1) t=F t:=if_pos (Nat.lt_succ_self t)
    have e3:EN (Du F (t+1)) t=EN (Du F t) t:=by
     unfold EN
     split
     .rfl
     .unfold Du
      rw [if_pos (by omega),if_pos (by omega)]
    rw [e1,e2,e3,Nat.sub_self,Rat.zero_mul,Rat.zero_add,Rat.add_comm]
   .obtain rfl:t=i+1:=by omega
    have e1:Du F i (i+1)=0:=if_neg (by omega)
    have e2:Du F (i+1) (i+1)=0:=if_neg (by omega)
    have e3:EN (Du F (i+1)) (i+1)=F i:=by
     unfold EN
     rw [if_neg (by omega),Nat.add_sub_cancel]
     exact if_pos (Nat.lt_succ_self i)
    have e4:EN (Du F i) (i+1)=0:=by
     unfold EN
     rw [if_neg (by omega),Nat.add_sub_cancel]
     exact if_neg (Nat.lt_irrefl i)
    rw [e1,e2,e3,e4,show i+1-i=1 by omega,Rat.zero_mul,Rat.zero_mul,Rat.zero_add,Rat.zero_add]
  .rw [if_neg h]
   have e1:Du F i t=Du F (i+1) t:=by
    unfold Du
    by_cases h3:t<i
    .rw [if_pos h3,if_pos (by omega)]
    .rw [if_neg h3,if_neg (by omega)]
   have e2:EN (Du F i) t=EN (Du F (i+1)) t:=by
    unfold EN
    split
    .rfl
    .unfold Du
     by_cases h3:t-1<i
     .rw [if_pos h3,if_pos (by omega)]
     .rw [if_neg h3,if_neg (by omega)]
   rw [e1,e2]
def Gs(c:Rat)(j i:Nat):Nat->Rat:=Du (pT c j i).2 (pT c j i).1
theorem Ja(c:Rat)(j t:Nat):Gs c j 0 t=if t=0 then c else 0:=by
 unfold Gs pT Du
 by_cases hc:c=0
 .rw [if_pos hc,if_neg (Nat.not_lt_zero t)]
  split
  .exact hc.symm
  .rfl
 .rw [if_neg hc]
  by_cases ht:t=0
  .rw [if_pos ht,if_pos (by omega)]
  .rw [if_neg ht, if_neg (by omega)]
   rfl
theorem LA(c:Rat)(j i t:Nat):Gs c j (i+1) t=Gs c j i t*pG (i+1) j 0+EN (Gs c j i) t*pG (i+1) j 1:=by
 unfold Gs
 rw [pT]
 by_cases h:(pT c j i).1=0
 .rw [if_pos h]
  have e:∀t,Du (pT c j i).2 0 t=0:=λt=>if_neg (Nat.not_lt_zero t)
  have e2:EN (Du (pT c j i).2 0) t=0:=by
   unfold EN
   split
   .rfl
   .exact e _
  show Du (pT c j i).2 0 t=_
  rw [h,e,e2,Rat.zero_mul,Rat.zero_mul,Rat.add_zero]
 .rw [if_neg h]
  show Du _ (Dj _ _) t=_
  rw [Ot]
  by_cases ht:t<(pT c j i).1+1
  .refine Eq.trans (if_pos ht) ?_
   exact Qo _ _ _ _
  .have e0:∀F:Nat->Rat,Du F ((pT c j i).1+1) t=0:=λF=>if_neg ht
   have e1:Du (pT c j i).2 (pT c j i).1 t=0:=if_neg (by omega)
   have e2:EN (Du (pT c j i).2 (pT c j i).1) t=0:=by
    unfold EN
    rw [if_neg (by omega)]
    exact if_neg (by omega)
   rw [e0,e1,e2,Rat.zero_mul,Rat.zero_mul,Rat.add_zero]
def wF:Nat->Rat
 | 0=>1
 | i+1=>wF i*Rat.divInt 1 ((i+1:Nat):Int)
theorem Yj:∀i,wF i≠0
 | 0=>by decide +kernel
 | i+1=>by
  rw [wF]
  intro h
  rcases Rat.mul_eq_zero.1 h with h | h
  .exact Yj i h
  .have h0:Rat.divInt 1 ((i+1:Nat):Int)=1/(((i+1:Nat):Int):Rat):=Rat.divInt_eq_div _ _
   have h3:((((i+1:Nat):Int)):Rat)≠0:=λe=>by
    have:((i+1:Nat):Int)=0:=by exact_mod_cast e
    omega
   rw [h0,Rat.div_def,Rat.one_mul] at h
   have h4:=Rat.mul_inv_cancel _ h3
   rw [h,Rat.mul_zero] at h4
   exact absurd h4 (by decide +kernel)
theorem Jb(c:Rat)(j:Nat):∀i t,i<t->Gs c j i t=0
 | 0,t,h=>by rw [Ja,if_neg (by omega)]
 | i+1,t,h=>by
  have e:EN (Gs c j i) t=0:=by
   unfold EN
   rw [if_neg (by omega)]
   exact Jb c j i _ (by omega)
  rw [LA,Jb c j i t (by omega),e,Rat.zero_mul,Rat.zero_mul,Rat.add_zero]
theorem UP(c:Rat)(j:Nat):∀i,Gs c j i i=c*wF i
 | 0=>by rw [Ja,if_pos rfl,wF,Rat.mul_one]
 | i+1=>by
  have e:EN (Gs c j i) (i+1)=c*wF i:=by
   unfold EN
   rw [if_neg (by omega),Nat.add_sub_cancel]
   exact UP c j i
  have e2:pG (i+1) j 1=Rat.divInt 1 ((i+1:Nat):Int):=if_neg (by omega)
  rw [LA,Jb c j i (i+1) (by omega),e,e2,Rat.zero_mul,Rat.zero_add,wF,Rat.mul_assoc]
def II(q:Nat->Int)(Dg j:Nat):Nat->Rat:=Du (pH q Dg j).2 (pH q Dg j).1
theorem Jc(q:Nat->Int)(Dg t:Nat):II q Dg 0 t=0:=by
 unfold II pH Du
 exact if_neg (Nat.not_lt_zero t)
theorem Jd(q:Nat->Int)(Dg j t:Nat):II q Dg (j+1) t=II q Dg j t+Gs ((q j:Int):Rat) j (Dg-1) t:=by
 unfold II
 rw [pH]
 show Du _ (Dj _ _) t=_
 rw [Ot,A1Z]
 rfl
theorem OM(q:Nat->Int)(Dg:Nat):∀j,II q Dg j (Dg-1)=((Ba j q:Int):Rat)*wF (Dg-1)
 | 0=>by
  rw [Jc]
  show (0:Rat)=((0:Int):Rat)*_
  exact (Rat.zero_mul _).symm
 | j+1=>by
  rw [Jd,OM q Dg j,UP,<-Rat.add_mul,Ba,Rat.intCast_add]
theorem A35{q:Nat->Int}{Dg M:Nat}(hD:0<Dg)(h:Ba M q≠0):(pH q Dg M).1=Dg:=by
 have h1:=YX q hD M
 have h2:=OM q Dg M
 rcases Nat.lt_or_ge (pH q Dg M).1 Dg with h3 | h3
 .exfalso
  have h4:II q Dg M (Dg-1)=0:=if_neg (by omega)
  rw [h4] at h2
  rcases Rat.mul_eq_zero.1 h2.symm with h5 | h5
  .exact h (by exact_mod_cast h5)
  .exact Yj _ h5
 .omega
def sQ:Nat->(Nat->Rat)->Rat
 | 0,_=>0
 | n+1,f=>sQ n f+f n
theorem A2W(f g:Nat->Rat):∀n,sQ n (λt=>f t+g t)=sQ n f+sQ n g
 | 0=>(Rat.add_zero 0).symm
 | n+1=>by
  rw [sQ,sQ,sQ,A2W f g n]
  grind
theorem A1e{f:Nat->Rat}{m:Nat}(h:∀t,m<=t->f t=0):∀k,sQ (m+k) f=sQ m f
 | 0=>rfl
 | k+1=>by
  rw [<-Nat.add_assoc,sQ,A1e h k,h _ (by omega),Rat.add_zero]
theorem Ux{f:Nat->Int}{m:Nat}(h:∀t,m<=t->f t=0):∀k,Ba (m+k) f=Ba m f
 | 0=>rfl
 | k+1=>by
  rw [<-Nat.add_assoc,Ba,Ux h k,h _ (by omega),Int.add_zero]
end Go.Proofs.YtialdhnijjnpaaaGreat
