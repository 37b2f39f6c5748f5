/- LedgerSplices: for every input the law answers true and leaves its arguments as they were. -/
import Derived.Test.YtcaehidaejhdfaaGreatLedgerSplicesN
set_option linter.unusedVariables false
set_option linter.unusedSimpArgs false
namespace Go.Sx
theorem Any.V7 {P:Program}{env:Env}{n:Nat}{d:Option Nat}{T:TypeId}{p:String}{af:Array Edge}{g:Option (Nat×Bool)}{t ty:TypeId}{x y:Operand}{a b:Int}(hx:ev env x=some (.int .u8 a))(hy:ev env y=some (.int .u8 b))(hb:0<=a/\1<=b):
    Any P env n ⟨d,.binOp .rem t x y ty,T,p,af,g⟩ (.int .u8 (a%b)):= .int hx hy fun w=>by
  have:b≠0:=by omega
  simp[binOp,Op.intDiv,this,IntWalk.rem_in _ b hb.1]
theorem Any.Ov {P:Program}{env:Env}{n:Nat}{d:Option Nat}{T:TypeId}{p:String}{af:Array Edge}{g:Option (Nat×Bool)}{t e len s:Nat}{zs:Array Value}{parts:Array (Nat×Operand)}(vs:List Value){cs:List Value}(hu:P.underlying t=some (.array len e))(hs:Sz P e s)(hz:Zr P t (.agg zs))(hp:Pk env parts.toList=some (yZ 0 vs))
    (h1:∀v∈vs,v.cells.size=s)(hl1:zs.size=len*s)(hl2:vs.length=len)(hc:rJ vs=cs):Any P env n ⟨d,.build t parts,T,p,af,g⟩ (.agg cs.toArray):=
  Any.mZ hu hs hz hp (by
    subst hc
    have hfl:=wM s vs h1
    have hl:zs.size=(rJ vs).length:=by rw[hl1,hfl,hl2]
    have hf:=AA (fun i=>some (i*s,s)) vs 0 [] zs.toList (by simpa using xN s vs 0 h1) (by simp[hl])
    simpa[Value.cells,hl,List.drop_of_length_le]using hf)
end Go.Sx
namespace Go.Proofs.YtcaehidaejhdfaaGreat
open Tryz
open Go Go.Sx Go.wI Go.Num Go.Ac Go.rZ Go.Lsp Go.Fv
set_option maxRecDepth 20000
structure GD where
  s0:List Byte
  s1:List Byte
  am:Nat
  ow:Nat
  ra:Nat
  op:Nat
  oa:Option Addr
  on:Nat
  oc:Nat
  no:Nat
  per:List Byte
def Dn (p:GD):List Value:=qX p.s0++qX p.s1++[.int .u32 ((p.am:Nat):Int),.int .u32 ((p.ow:Nat):Int),.int .u8 ((p.ra:Nat):Int),.int .u8 ((p.op:Nat):Int),.slice p.oa p.on p.oc,.int .u16 ((p.no:Nat):Int)]++qX p.per
structure Dh (p:GD):Prop where
  s0:p.s0.length=32
  s1:p.s1.length=32
  am:p.am<4294967296
  ow:p.ow<4294967296
  ra:p.ra<256
  op:p.op<256
  no:p.no<65536
def rE (p:GD):IC:=⟨20000+((p.am:Nat):Int),((p.op:Nat):Int)%2,base (jN p.s0).f,base (jN p.s0).p,base (jN p.s0).l,base (jN p.s0).c,base (jN p.s0).r,base (jN p.s1).f,base (jN p.s1).p,base (jN p.s1).l,base (jN p.s1).c,base (jN p.s1).r⟩
def WK (p:GD):Int:=((p.ow:Nat):Int)%((20000+((p.am:Nat):Int))+1)
theorem Q3 (p:GD):0<=WK p/\WK p<=20000+((p.am:Nat):Int):=by
  unfold WK
  have b:=Int.emod_nonneg ((p.ow:Nat):Int) (show(20000+((p.am:Nat):Int))+1≠0 by omega)
  have c:=Int.emod_lt_of_pos ((p.ow:Nat):Int) (show 0<(20000+((p.am:Nat):Int))+1 by omega)
  omega
def E9 (p:GD):vI:=⟨((p.no:Nat):Int),WK p,(20000+((p.am:Nat):Int))-WK p,[],((p.ra:Nat):Int)%8⟩
def kJ (p:GD):vI:=if u7 (E9 p).rt 0<=(E9 p).h (rE p).op then E9 p else if((p.op:Nat):Int)%2=0 then⟨((p.no:Nat):Int),20000+((p.am:Nat):Int),0,[],((p.ra:Nat):Int)%8⟩else⟨((p.no:Nat):Int),0,20000+((p.am:Nat):Int),[],((p.ra:Nat):Int)%8⟩
theorem Lc {p:GD}(h:Dh p):Gy (rE p):=by
  have u:=h.am
  have hb:∀s:List Byte,oV (base (jN s).f)/\oV (base (jN s).p)/\oV (base (jN s).l)/\oV (base (jN s).c)/\oV (base (jN s).r):=fun s=>⟨wD (xF _),wD (xF _),wD (xF _),wD (xF _),wD (xF _)⟩
  refine⟨by unfold rE;dsimp only;omega,by unfold rE;dsimp only;omega,?_⟩
  obtain⟨b,d,e,i,j⟩:=hb p.s0
  obtain⟨k,m,n,o,t⟩:=hb p.s1
  exact⟨b,d,e,i,j,k,m,n,o,t⟩
theorem Q4 {p:GD}(h:Dh p):Ou (rE p).am (E9 p):=by
  have b:=h.am
  have c:=h.no
  have:=Q3 p
  unfold Ou E9 rE
  dsimp only
  omega
theorem Cx {am op:Int}{s:vI}(h:Ou am s)(ha:am<=1125899906842624)(hc:u7 s.rt 0<=s.h op)(hn:s.cs=[]):ED am op s:=by
  have b:=h.2.2.2.2
  refine{qV:=h.1,Z9:=h.2.1,h1_:=h.2.2.1,rt_:=h.2.2.2.1,len:=?_,fine:=?_,ord:=?_,tot:=?_,top:=ha,pays:=?_}
  · rw[hn];decide
  · rw[hn];intro c hc;cases hc
  · rw[hn];exact .nil
  · rw[hn];simp only[yP,List.map_nil,List.sum_nil];omega
  · rw[hn];exact hc
theorem Ld {p:GD}(h:Dh p):ED (rE p).am (rE p).op (kJ p):=by
  have b:=Q4 h
  have f:=h.am
  have i:=h.no
  have hr:u7 (((p.ra:Nat):Int)%8) 0<=1136:=by
    unfold u7
    have d:((p.ra:Nat):Int)%8<=7:=by omega
    have j:=Int.mul_le_mul_of_nonneg_right d (show(0:Int)<=68+8*((0:Nat):Int) by decide)
    have k:(7:Int)*(68+8*((0:Nat):Int))=476:=by decide
    omega
  have ha:(rE p).am<=1125899906842624:=by unfold rE;dsimp only;omega
  unfold kJ
  by_cases c:u7 (E9 p).rt 0<=(E9 p).h (rE p).op
  · rw[if_pos c];exact Cx b ha c rfl
  · rw[if_neg c]
    by_cases e:((p.op:Nat):Int)%2=0
    · rw[if_pos e]
      refine Cx ?_ ha ?_ rfl
      · unfold Ou rE;dsimp only;omega
      · have:(rE p).op=0:=by show((p.op:Nat):Int)%2=0;omega
        rw[this];show u7 (((p.ra:Nat):Int)%8) 0<=20000+((p.am:Nat):Int);omega
    · rw[if_neg e]
      refine Cx ?_ ha ?_ rfl
      · unfold Ou rE;dsimp only;omega
      · have:(rE p).op=1:=by show((p.op:Nat):Int)%2=1;omega
        rw[this];show u7 (((p.ra:Nat):Int)%8) 0<=20000+((p.am:Nat):Int);omega
theorem T9 (p:GD):(kJ p).cs=[]:=by unfold kJ E9;split<;>(try split)<;>rfl
set_option maxHeartbeats 4000000 in
theorem Ua (p:GD) (w:World) (hp:Dh p/\p.oa=none/\p.on=0/\p.oc=0):Calls prog 5 #[.agg (Dn p).toArray] w fun r w'=>r= .returned (.tuple #[.agg (tX (rE p)).toArray,.agg (rU (jN p.s0,jN p.s1)).toArray,.agg #[.int .i64 (kJ p).no,.int .i64 (kJ p).h0,.int .i64 (kJ p).h1,.slice none 0 0,.int .i64 (kJ p).rt]])/\Le w w':=by
 obtain⟨hp,cF,cG,cH⟩:=hp
 have hch:=Lc hp;have bR:=Q4 hp;have cI:=hp.am;have cJ:=hp.ow;have cK:=hp.ra;have cL:=hp.op;have cM:=hp.no;have hm:=Q3 p;unfold WK at hm
 refine enter func5 rfl rfl (Sr (W.ef rfl rfl rfl (Ef.mH rfl fun bS bT cN (bU:jL bT bS 29 (Dn p).toArray) bV=>?_)))
 have L1:=(Le.refl w).trans bV
 refine W.ef rfl rfl rfl (Ef.jR z47 ?_)
 intro au bW aA A a1
 have L2:=L1.trans a1
 have A:jL bW au 47 #[.int .u8 0,.int .u8 0,.int .u8 0,.int .u8 0,.int .u8 0,.int .u8 0,.int .u8 0,.int .u8 0,.int .u8 0,.int .u8 0,.int .u8 0,.int .u8 0,.int .u8 0,.int .u8 0,.int .u8 0,.int .u8 0,.int .u8 0,.int .u8 0,.int .u8 0,.int .u8 0,.int .u8 0,.int .u8 0,.int .u8 0,.int .u8 0,.int .u8 0,.int .u8 0,.int .u8 0,.int .u8 0,.int .u8 0,.int .u8 0,.int .u8 0,.int .u8 0,.int .i64 0,.int .i64 0,.int .u64 ((kD.f:Nat):Int),.int .u64 ((kD.p:Nat):Int),.int .u64 ((kD.l:Nat):Int),.int .u64 ((kD.c:Nat):Int),.int .u64 ((kD.r:Nat):Int),.int .u64 ((kD.f:Nat):Int),.int .u64 ((kD.p:Nat):Int),.int .u64 ((kD.l:Nat):Int),.int .u64 ((kD.c:Nat):Int),.int .u64 ((kD.r:Nat):Int),.int .i64 0,.int .i64 0,.int .i64 0,.int .i64 0,.int .i64 0,.int .i64 0,.int .i64 0,.int .i64 0,.int .i64 0,.int .i64 0,.int .i64 0,.int .i64 0,.int .i64 (0)]:=A
 refine W.ef rfl rfl rfl (Ef.jR z51 fun av bX aB (C:jL bX av 51 (rU (E5,E5)).toArray) B=>?_)
 have L3:=L2.trans B
 refine W.ef rfl rfl rfl (Ef.jR z55 fun aw bY aC (D:jL bY aw 55 #[.int .i64 0,.int .i64 0,.int .i64 0,.slice none 0 0,.int .i64 (0)]) e=>(Nx (Sq (WC.UA [0,1,2,4,5,6] [3,7,8,9] [10] (fun i=>bif Nat.beq i 8 then[3,7]else[]) mixed (by kernel_rfl) fun U b=>?_))))
 have L5:=(L3.trans e).trans b
 refine Ga rfl (.jE Qp rfl) (Ga rfl (.mP 0 underlying24 zx rfl rfl rfl (by omega)) ?_)
 have f6:=(bU.le (a1.trans (B.trans (e.trans b))))
 refine Gd rfl (.mV (qX p.s0) sV rfl (by decide) rfl f6 rfl) (Ga rfl (.jE Qp rfl) (Ga rfl (.mP 1 underlying24 zx rfl rfl rfl (by omega)) (Gd rfl (.mV (qX p.s1) sV rfl (by decide) rfl f6 rfl) (G.nil (E.Uz ⟨by rfl,fun iU=>(bif Nat.beq iU 3 then(fun v w'=>v= .agg (wB (jN p.s0)).toArray)else(bif Nat.beq iU 7 then(fun v w'=>v= .agg (wB (jN p.s1)).toArray)else(bif Nat.beq iU 8 then(fun v w'=>v= .agg (rU (jN p.s0,jN p.s1)).toArray)else(bif Nat.beq iU 9 then(fun v w'=>∃P,v= .pointer (some ⟨P,0,none⟩)/\jL w' P 51 (rU (E5,E5)).toArray)else(fun _ _=>True))))),?_,?_,?_⟩)))))
 ·intro iU hi v U w2 hv hle
  simp only[List.mem_cons,List.not_mem_nil,or_false]at hi
  rcases hi with rfl|rfl|rfl|rfl
  ·exact hv
  ·exact hv
  ·exact hv
  obtain⟨P,hvv,aD⟩:=hv;exact⟨P,hvv,aD.le hle⟩
 ·intro iU hi
  simp only[List.mem_cons,List.not_mem_nil,or_false]at hi
  rcases hi with rfl|rfl|rfl|rfl
  ·refine .inl ⟨rfl,Step.WE rfl rfl ?_⟩
   intro U hle
   refine Ef.call Ya rfl rfl (ME p.s0 hp.s0 U) ?_
   rintro _ w2 ⟨rfl,h2⟩
   refine⟨_,rfl,?_⟩
   exact⟨h2,rfl,fun k hk=>hk.elim⟩
  ·refine .inl ⟨rfl,Step.WE rfl rfl ?_⟩
   intro U hle
   refine Ef.call Ya rfl rfl (ME p.s1 hp.s1 U) ?_
   rintro _ w2 ⟨rfl,h2⟩
   refine⟨_,rfl,?_⟩
   exact⟨h2,rfl,fun k hk=>hk.elim⟩
  ·refine AJ.Ux (j:=3) (k:=7) rfl rfl rfl rfl rfl fun v3 v7 U hle (bZ:v3= .agg (wB (jN p.s0)).toArray) aE=>?_
   subst bZ
   have aE:v7= .agg (wB (jN p.s1)).toArray:=aE
   subst aE
   exact⟨.agg (rU (jN p.s0,jN p.s1)).toArray,.Ov [.agg (wB (jN p.s0)).toArray,.agg (wB (jN p.s1)).toArray] underlying51 PY z51 rfl (fun v hv=>by simp at hv;rcases hv with rfl|rfl<;>simp[Value.cells,wC.len]) rfl rfl (show _=rU (jN p.s0,jN p.s1) by simp[rJ,rU,Value.cells]),rfl,fun k hk=>hk.elim⟩
  refine .inl ⟨rfl,Step.WE rfl rfl ?_⟩
  intro U hle
  refine Ef.jR z51 fun P w2 hg a2 h2=>?_
  exact⟨h2,⟨_,rfl,a2⟩,fun k hk=>(show P=k from hk)▸⟨hg,a2.lt⟩⟩
 intro V8 W_1 h_1 Im Ub abF
 have b0:V8 3= .agg (wB (jN p.s0)).toArray:=Im 3 (by decide)
 have b1:V8 7= .agg (wB (jN p.s1)).toArray:=Im 7 (by decide)
 have b2:V8 8= .agg (rU (jN p.s0,jN p.s1)).toArray:=Im 8 (by decide)
 obtain⟨P,a3,aD⟩:=Im 9 (by decide)
 have b3:U.heap.size<=P:=(Ub 9 (by decide) P (by rw[a3];rfl)).1
 show G _ _ _ _ _ ((18,V8 3)::(22,V8 7)::(23,V8 8)::(5,V8 9)::_) _
 rw[b0,b1,b2,a3]
 refine G.kP rfl rfl rfl rfl (Ef.storeAll NA (by rfl) rfl rfl aD (by simp only[List.size_toArray,oZ.len]) (oZ.one (jN p.s0,jN p.s1)) ?_)
 intro b4 Q d
 refine noT (by kernel_rfl) ?_
 have Q:jL b4 P 51 (rU (jN p.s0,jN p.s1)).toArray:=Q
 have ad:=(L5.trans h_1).tb d L5 b3
 refine G.nil (E.jG (Sr (Wa (.jE VM rfl) rfl ?_)))
 have V:=((f6.le h_1).cn d (by have:=f6.lt;omega))
 refine Wr (.jF (v:= .int .u32 ((p.am:Nat):Int)) lQ rfl V rfl) rfl (Wr (.Su (y5 underlying25) underlying3 rfl (IntWalk.i64_in _ (by omega))) rfl (Wa (.add rfl rfl (by omega)) rfl (Wa (.jE VP rfl) rfl (Wr (.jF (v:= .int .u8 ((p.op:Nat):Int)) IB rfl V rfl) rfl (Wa (.V7 rfl rfl (by omega)) rfl ?_)))))
 refine Wr (.Su (y5 underlying5) underlying3 rfl (IntWalk.i64_in _ (by omega))) rfl ?_
 refine Wa (.kK [.int .u8 0,.int .u8 0,.int .u8 0,.int .u8 0,.int .u8 0,.int .u8 0,.int .u8 0,.int .u8 0,.int .u8 0,.int .u8 0,.int .u8 0,.int .u8 0,.int .u8 0,.int .u8 0,.int .u8 0,.int .u8 0,.int .u8 0,.int .u8 0,.int .u8 0,.int .u8 0,.int .u8 0,.int .u8 0,.int .u8 0,.int .u8 0,.int .u8 0,.int .u8 0,.int .u8 0,.int .u8 0,.int .u8 0,.int .u8 0,.int .u8 0,.int .u8 0,.int .i64 0,.int .i64 (20000+((p.am:Nat):Int)),.int .u64 ((kD.f:Nat):Int),.int .u64 ((kD.p:Nat):Int),.int .u64 ((kD.l:Nat):Int),.int .u64 ((kD.c:Nat):Int),.int .u64 ((kD.r:Nat):Int),.int .u64 ((kD.f:Nat):Int),.int .u64 ((kD.p:Nat):Int),.int .u64 ((kD.l:Nat):Int),.int .u64 ((kD.c:Nat):Int),.int .u64 ((kD.r:Nat):Int),.int .i64 0,.int .i64 0,.int .i64 0,.int .i64 0,.int .i64 0,.int .i64 0,.int .i64 0,.int .i64 0,.int .i64 0,.int .i64 0,.int .i64 0,.int .i64 0,.int .i64 (((p.op:Nat):Int)%2)] abf z47 rfl rfl) rfl ?_
 refine W.ef rfl rfl rfl (Ef.jR z47 ?_)
 intro T b5 aq aF u
 have aF:jL b5 T 47 #[.int .u8 0,.int .u8 0,.int .u8 0,.int .u8 0,.int .u8 0,.int .u8 0,.int .u8 0,.int .u8 0,.int .u8 0,.int .u8 0,.int .u8 0,.int .u8 0,.int .u8 0,.int .u8 0,.int .u8 0,.int .u8 0,.int .u8 0,.int .u8 0,.int .u8 0,.int .u8 0,.int .u8 0,.int .u8 0,.int .u8 0,.int .u8 0,.int .u8 0,.int .u8 0,.int .u8 0,.int .u8 0,.int .u8 0,.int .u8 0,.int .u8 0,.int .u8 0,.int .i64 0,.int .i64 0,.int .u64 ((kD.f:Nat):Int),.int .u64 ((kD.p:Nat):Int),.int .u64 ((kD.l:Nat):Int),.int .u64 ((kD.c:Nat):Int),.int .u64 ((kD.r:Nat):Int),.int .u64 ((kD.f:Nat):Int),.int .u64 ((kD.p:Nat):Int),.int .u64 ((kD.l:Nat):Int),.int .u64 ((kD.c:Nat):Int),.int .u64 ((kD.r:Nat):Int),.int .i64 0,.int .i64 0,.int .i64 0,.int .i64 0,.int .i64 0,.int .i64 0,.int .i64 0,.int .i64 0,.int .i64 0,.int .i64 0,.int .i64 0,.int .i64 0,.int .i64 (0)]:=aF
 refine W.sA yQ rfl rfl aF ?_
 intro a4 aG x
 have aG:jL a4 T 47 #[.int .u8 0,.int .u8 0,.int .u8 0,.int .u8 0,.int .u8 0,.int .u8 0,.int .u8 0,.int .u8 0,.int .u8 0,.int .u8 0,.int .u8 0,.int .u8 0,.int .u8 0,.int .u8 0,.int .u8 0,.int .u8 0,.int .u8 0,.int .u8 0,.int .u8 0,.int .u8 0,.int .u8 0,.int .u8 0,.int .u8 0,.int .u8 0,.int .u8 0,.int .u8 0,.int .u8 0,.int .u8 0,.int .u8 0,.int .u8 0,.int .u8 0,.int .u8 0,.int .i64 0,.int .i64 (20000+((p.am:Nat):Int)),.int .u64 ((kD.f:Nat):Int),.int .u64 ((kD.p:Nat):Int),.int .u64 ((kD.l:Nat):Int),.int .u64 ((kD.c:Nat):Int),.int .u64 ((kD.r:Nat):Int),.int .u64 ((kD.f:Nat):Int),.int .u64 ((kD.p:Nat):Int),.int .u64 ((kD.l:Nat):Int),.int .u64 ((kD.c:Nat):Int),.int .u64 ((kD.r:Nat):Int),.int .i64 0,.int .i64 0,.int .i64 0,.int .i64 0,.int .i64 0,.int .i64 0,.int .i64 0,.int .i64 0,.int .i64 0,.int .i64 0,.int .i64 0,.int .i64 0,.int .i64 (((p.op:Nat):Int)%2)]:=aG
 refine Nx (Sq (Sr (Wn 1 rfl (Nx (WC.block (WC.rounds 3 (qK.step (Sq (Sr (Wn 1 rfl (Wa (.dec (.lss rfl rfl) (show _=true from by first|decide|rfl)) rfl ?_)))))))))))
 refine Nx (WC.jS rfl (Sn (Sq (WC.block (Sr (Wn 2 rfl (Wa (.mP 0 underlying51 PY rfl rfl rfl (by omega)) rfl ?_)))))))
 have a5:=((Q.le u).cn x (by have:=Q.lt;omega))
 refine Wr (.mV (wB ((jN p.s0,jN p.s1).1)) VC rfl (by decide) rfl a5 rfl) rfl (W.cl Yb rfl rfl (E8 ((jN p.s0,jN p.s1).1) a4) ?_)
 rintro _ cO ⟨rfl,t⟩
 refine Wa (.jE xY rfl) rfl (Wa (.mP 0 underlying42 Bb rfl rfl rfl (by omega)) rfl ?_)
 have b6:=(aG.le t)
 refine W.kP rfl rfl ?_
 refine Ef.uh [.int .u8 0,.int .u8 0,.int .u8 0,.int .u8 0,.int .u8 0,.int .u8 0,.int .u8 0,.int .u8 0,.int .u8 0,.int .u8 0,.int .u8 0,.int .u8 0,.int .u8 0,.int .u8 0,.int .u8 0,.int .u8 0,.int .u8 0,.int .u8 0,.int .u8 0,.int .u8 0,.int .u8 0,.int .u8 0,.int .u8 0,.int .u8 0,.int .u8 0,.int .u8 0,.int .u8 0,.int .u8 0,.int .u8 0,.int .u8 0,.int .u8 0,.int .u8 0,.int .i64 0,.int .i64 (20000+((p.am:Nat):Int)),.int .u64 (((kg ((jN p.s0,jN p.s1).1)).f:Nat):Int),.int .u64 (((kg ((jN p.s0,jN p.s1).1)).p:Nat):Int),.int .u64 (((kg ((jN p.s0,jN p.s1).1)).l:Nat):Int),.int .u64 (((kg ((jN p.s0,jN p.s1).1)).c:Nat):Int),.int .u64 (((kg ((jN p.s0,jN p.s1).1)).r:Nat):Int),.int .u64 ((kD.f:Nat):Int),.int .u64 ((kD.p:Nat):Int),.int .u64 ((kD.l:Nat):Int),.int .u64 ((kD.c:Nat):Int),.int .u64 ((kD.r:Nat):Int),.int .i64 0,.int .i64 0,.int .i64 0,.int .i64 0,.int .i64 0,.int .i64 0,.int .i64 0,.int .i64 0,.int .i64 0,.int .i64 0,.int .i64 0,.int .i64 0,.int .i64 (((p.op:Nat):Int)%2)] Bb (by rfl) rfl rfl b6 (by show 34+5<=57;decide) (Br.one (kg ((jN p.s0,jN p.s1).1))) rfl ?_
 intro b7 aH y
 have aH:jL b7 T 47 #[.int .u8 0,.int .u8 0,.int .u8 0,.int .u8 0,.int .u8 0,.int .u8 0,.int .u8 0,.int .u8 0,.int .u8 0,.int .u8 0,.int .u8 0,.int .u8 0,.int .u8 0,.int .u8 0,.int .u8 0,.int .u8 0,.int .u8 0,.int .u8 0,.int .u8 0,.int .u8 0,.int .u8 0,.int .u8 0,.int .u8 0,.int .u8 0,.int .u8 0,.int .u8 0,.int .u8 0,.int .u8 0,.int .u8 0,.int .u8 0,.int .u8 0,.int .u8 0,.int .i64 0,.int .i64 (20000+((p.am:Nat):Int)),.int .u64 (((kg ((jN p.s0,jN p.s1).1)).f:Nat):Int),.int .u64 (((kg ((jN p.s0,jN p.s1).1)).p:Nat):Int),.int .u64 (((kg ((jN p.s0,jN p.s1).1)).l:Nat):Int),.int .u64 (((kg ((jN p.s0,jN p.s1).1)).c:Nat):Int),.int .u64 (((kg ((jN p.s0,jN p.s1).1)).r:Nat):Int),.int .u64 ((kD.f:Nat):Int),.int .u64 ((kD.p:Nat):Int),.int .u64 ((kD.l:Nat):Int),.int .u64 ((kD.c:Nat):Int),.int .u64 ((kD.r:Nat):Int),.int .i64 0,.int .i64 0,.int .i64 0,.int .i64 0,.int .i64 0,.int .i64 0,.int .i64 0,.int .i64 0,.int .i64 0,.int .i64 0,.int .i64 0,.int .i64 0,.int .i64 (((p.op:Nat):Int)%2)]:=aH
 refine Nx (WC.region (Wn 2 rfl (Wa (.as (.add rfl rfl (by decide)) rfl) rfl (Wa (.kK [.int .i64 100,.int .i64 200,.int .i64 5,.int .i64 16,.int .i64 1,.int .i64 (1125899906842624)] Y2 z44 rfl rfl) rfl (Wa (.jE pV rfl) rfl (Wa (.mP 0 underlying45 rD rfl rfl rfl (by omega)) rfl (W.kP rfl rfl ?_)))))))
 refine Ef.uh [.int .u8 0,.int .u8 0,.int .u8 0,.int .u8 0,.int .u8 0,.int .u8 0,.int .u8 0,.int .u8 0,.int .u8 0,.int .u8 0,.int .u8 0,.int .u8 0,.int .u8 0,.int .u8 0,.int .u8 0,.int .u8 0,.int .u8 0,.int .u8 0,.int .u8 0,.int .u8 0,.int .u8 0,.int .u8 0,.int .u8 0,.int .u8 0,.int .u8 0,.int .u8 0,.int .u8 0,.int .u8 0,.int .u8 0,.int .u8 0,.int .u8 0,.int .u8 0,.int .i64 0,.int .i64 (20000+((p.am:Nat):Int)),.int .u64 (((kg ((jN p.s0,jN p.s1).1)).f:Nat):Int),.int .u64 (((kg ((jN p.s0,jN p.s1).1)).p:Nat):Int),.int .u64 (((kg ((jN p.s0,jN p.s1).1)).l:Nat):Int),.int .u64 (((kg ((jN p.s0,jN p.s1).1)).c:Nat):Int),.int .u64 (((kg ((jN p.s0,jN p.s1).1)).r:Nat):Int),.int .u64 ((kD.f:Nat):Int),.int .u64 ((kD.p:Nat):Int),.int .u64 ((kD.l:Nat):Int),.int .u64 ((kD.c:Nat):Int),.int .u64 ((kD.r:Nat):Int),.int .i64 100,.int .i64 200,.int .i64 5,.int .i64 16,.int .i64 1,.int .i64 1125899906842624,.int .i64 0,.int .i64 0,.int .i64 0,.int .i64 0,.int .i64 0,.int .i64 0,.int .i64 (((p.op:Nat):Int)%2)] rD (by rfl) rfl rfl aH (by show 44+6<=57;decide) (by simp[Value.oneCell']) rfl ?_
 intro a6 aI z
 have aI:jL a6 T 47 #[.int .u8 0,.int .u8 0,.int .u8 0,.int .u8 0,.int .u8 0,.int .u8 0,.int .u8 0,.int .u8 0,.int .u8 0,.int .u8 0,.int .u8 0,.int .u8 0,.int .u8 0,.int .u8 0,.int .u8 0,.int .u8 0,.int .u8 0,.int .u8 0,.int .u8 0,.int .u8 0,.int .u8 0,.int .u8 0,.int .u8 0,.int .u8 0,.int .u8 0,.int .u8 0,.int .u8 0,.int .u8 0,.int .u8 0,.int .u8 0,.int .u8 0,.int .u8 0,.int .i64 0,.int .i64 (20000+((p.am:Nat):Int)),.int .u64 (((kg ((jN p.s0,jN p.s1).1)).f:Nat):Int),.int .u64 (((kg ((jN p.s0,jN p.s1).1)).p:Nat):Int),.int .u64 (((kg ((jN p.s0,jN p.s1).1)).l:Nat):Int),.int .u64 (((kg ((jN p.s0,jN p.s1).1)).c:Nat):Int),.int .u64 (((kg ((jN p.s0,jN p.s1).1)).r:Nat):Int),.int .u64 ((kD.f:Nat):Int),.int .u64 ((kD.p:Nat):Int),.int .u64 ((kD.l:Nat):Int),.int .u64 ((kD.c:Nat):Int),.int .u64 ((kD.r:Nat):Int),.int .i64 100,.int .i64 200,.int .i64 5,.int .i64 16,.int .i64 1,.int .i64 1125899906842624,.int .i64 0,.int .i64 0,.int .i64 0,.int .i64 0,.int .i64 0,.int .i64 0,.int .i64 (((p.op:Nat):Int)%2)]:=aI
 refine W.nil (E.jZ (E.jG (WC.region (Wn 1 rfl (Wa (.as (.add rfl rfl (by decide)) rfl) rfl (Wn 1 rfl (W.nil (E.round (qK.step (Sq (Sr (Wn 1 rfl ?_))))))))))))
 refine Wa (.dec (.lss rfl rfl) (show _=true from by first|decide|rfl)) rfl ?_
 refine Nx (WC.jS rfl (Sn (Sq (WC.block (Sr (Wn 2 rfl (Wa (.mP 1 underlying51 PY rfl rfl rfl (by omega)) rfl ?_)))))))
 have I:=(((a5.le t).cn y (by have:=Q.lt;omega)).cn z (by have:=Q.lt;omega))
 refine Wr (.mV (wB ((jN p.s0,jN p.s1).2)) VC rfl (by decide) rfl I rfl) rfl (W.cl Yb rfl rfl (E8 ((jN p.s0,jN p.s1).2) a6) ?_)
 rintro _ cP ⟨rfl,m⟩
 refine Wa (.jE xY rfl) rfl (Wa (.mP 1 underlying42 Bb rfl rfl rfl (by omega)) rfl ?_)
 have b8:=(aI.le m)
 refine W.kP rfl rfl ?_
 refine Ef.uh [.int .u8 0,.int .u8 0,.int .u8 0,.int .u8 0,.int .u8 0,.int .u8 0,.int .u8 0,.int .u8 0,.int .u8 0,.int .u8 0,.int .u8 0,.int .u8 0,.int .u8 0,.int .u8 0,.int .u8 0,.int .u8 0,.int .u8 0,.int .u8 0,.int .u8 0,.int .u8 0,.int .u8 0,.int .u8 0,.int .u8 0,.int .u8 0,.int .u8 0,.int .u8 0,.int .u8 0,.int .u8 0,.int .u8 0,.int .u8 0,.int .u8 0,.int .u8 0,.int .i64 0,.int .i64 (20000+((p.am:Nat):Int)),.int .u64 (((kg ((jN p.s0,jN p.s1).1)).f:Nat):Int),.int .u64 (((kg ((jN p.s0,jN p.s1).1)).p:Nat):Int),.int .u64 (((kg ((jN p.s0,jN p.s1).1)).l:Nat):Int),.int .u64 (((kg ((jN p.s0,jN p.s1).1)).c:Nat):Int),.int .u64 (((kg ((jN p.s0,jN p.s1).1)).r:Nat):Int),.int .u64 (((kg ((jN p.s0,jN p.s1).2)).f:Nat):Int),.int .u64 (((kg ((jN p.s0,jN p.s1).2)).p:Nat):Int),.int .u64 (((kg ((jN p.s0,jN p.s1).2)).l:Nat):Int),.int .u64 (((kg ((jN p.s0,jN p.s1).2)).c:Nat):Int),.int .u64 (((kg ((jN p.s0,jN p.s1).2)).r:Nat):Int),.int .i64 100,.int .i64 200,.int .i64 5,.int .i64 16,.int .i64 1,.int .i64 1125899906842624,.int .i64 0,.int .i64 0,.int .i64 0,.int .i64 0,.int .i64 0,.int .i64 0,.int .i64 (((p.op:Nat):Int)%2)] Bb (by rfl) rfl rfl b8 (by show 39+5<=57;decide) (Br.one (kg ((jN p.s0,jN p.s1).2))) rfl ?_
 intro b9 aJ n
 have aJ:jL b9 T 47 #[.int .u8 0,.int .u8 0,.int .u8 0,.int .u8 0,.int .u8 0,.int .u8 0,.int .u8 0,.int .u8 0,.int .u8 0,.int .u8 0,.int .u8 0,.int .u8 0,.int .u8 0,.int .u8 0,.int .u8 0,.int .u8 0,.int .u8 0,.int .u8 0,.int .u8 0,.int .u8 0,.int .u8 0,.int .u8 0,.int .u8 0,.int .u8 0,.int .u8 0,.int .u8 0,.int .u8 0,.int .u8 0,.int .u8 0,.int .u8 0,.int .u8 0,.int .u8 0,.int .i64 0,.int .i64 (20000+((p.am:Nat):Int)),.int .u64 (((kg ((jN p.s0,jN p.s1).1)).f:Nat):Int),.int .u64 (((kg ((jN p.s0,jN p.s1).1)).p:Nat):Int),.int .u64 (((kg ((jN p.s0,jN p.s1).1)).l:Nat):Int),.int .u64 (((kg ((jN p.s0,jN p.s1).1)).c:Nat):Int),.int .u64 (((kg ((jN p.s0,jN p.s1).1)).r:Nat):Int),.int .u64 (((kg ((jN p.s0,jN p.s1).2)).f:Nat):Int),.int .u64 (((kg ((jN p.s0,jN p.s1).2)).p:Nat):Int),.int .u64 (((kg ((jN p.s0,jN p.s1).2)).l:Nat):Int),.int .u64 (((kg ((jN p.s0,jN p.s1).2)).c:Nat):Int),.int .u64 (((kg ((jN p.s0,jN p.s1).2)).r:Nat):Int),.int .i64 100,.int .i64 200,.int .i64 5,.int .i64 16,.int .i64 1,.int .i64 1125899906842624,.int .i64 0,.int .i64 0,.int .i64 0,.int .i64 0,.int .i64 0,.int .i64 0,.int .i64 (((p.op:Nat):Int)%2)]:=aJ
 refine Nx (WC.region (Wn 2 rfl (Wa (.as (.add rfl rfl (by decide)) rfl) rfl (Wa (.kK [.int .i64 100,.int .i64 200,.int .i64 6,.int .i64 16,.int .i64 1,.int .i64 (1125899906842624)] Y2 z44 rfl rfl) rfl (Wa (.jE pV rfl) rfl (Wa (.mP 1 underlying45 rD rfl rfl rfl (by omega)) rfl (W.kP rfl rfl ?_)))))))
 refine Ef.uh [.int .u8 0,.int .u8 0,.int .u8 0,.int .u8 0,.int .u8 0,.int .u8 0,.int .u8 0,.int .u8 0,.int .u8 0,.int .u8 0,.int .u8 0,.int .u8 0,.int .u8 0,.int .u8 0,.int .u8 0,.int .u8 0,.int .u8 0,.int .u8 0,.int .u8 0,.int .u8 0,.int .u8 0,.int .u8 0,.int .u8 0,.int .u8 0,.int .u8 0,.int .u8 0,.int .u8 0,.int .u8 0,.int .u8 0,.int .u8 0,.int .u8 0,.int .u8 0,.int .i64 0,.int .i64 (20000+((p.am:Nat):Int)),.int .u64 (((kg ((jN p.s0,jN p.s1).1)).f:Nat):Int),.int .u64 (((kg ((jN p.s0,jN p.s1).1)).p:Nat):Int),.int .u64 (((kg ((jN p.s0,jN p.s1).1)).l:Nat):Int),.int .u64 (((kg ((jN p.s0,jN p.s1).1)).c:Nat):Int),.int .u64 (((kg ((jN p.s0,jN p.s1).1)).r:Nat):Int),.int .u64 (((kg ((jN p.s0,jN p.s1).2)).f:Nat):Int),.int .u64 (((kg ((jN p.s0,jN p.s1).2)).p:Nat):Int),.int .u64 (((kg ((jN p.s0,jN p.s1).2)).l:Nat):Int),.int .u64 (((kg ((jN p.s0,jN p.s1).2)).c:Nat):Int),.int .u64 (((kg ((jN p.s0,jN p.s1).2)).r:Nat):Int),.int .i64 100,.int .i64 200,.int .i64 5,.int .i64 16,.int .i64 1,.int .i64 1125899906842624,.int .i64 100,.int .i64 200,.int .i64 6,.int .i64 16,.int .i64 1,.int .i64 1125899906842624,.int .i64 (((p.op:Nat):Int)%2)] rD (by rfl) rfl rfl aJ (by show 50+6<=57;decide) (by simp[Value.oneCell']) rfl ?_
 intro ca S o
 have S:jL ca T 47 #[.int .u8 0,.int .u8 0,.int .u8 0,.int .u8 0,.int .u8 0,.int .u8 0,.int .u8 0,.int .u8 0,.int .u8 0,.int .u8 0,.int .u8 0,.int .u8 0,.int .u8 0,.int .u8 0,.int .u8 0,.int .u8 0,.int .u8 0,.int .u8 0,.int .u8 0,.int .u8 0,.int .u8 0,.int .u8 0,.int .u8 0,.int .u8 0,.int .u8 0,.int .u8 0,.int .u8 0,.int .u8 0,.int .u8 0,.int .u8 0,.int .u8 0,.int .u8 0,.int .i64 0,.int .i64 (20000+((p.am:Nat):Int)),.int .u64 (((kg ((jN p.s0,jN p.s1).1)).f:Nat):Int),.int .u64 (((kg ((jN p.s0,jN p.s1).1)).p:Nat):Int),.int .u64 (((kg ((jN p.s0,jN p.s1).1)).l:Nat):Int),.int .u64 (((kg ((jN p.s0,jN p.s1).1)).c:Nat):Int),.int .u64 (((kg ((jN p.s0,jN p.s1).1)).r:Nat):Int),.int .u64 (((kg ((jN p.s0,jN p.s1).2)).f:Nat):Int),.int .u64 (((kg ((jN p.s0,jN p.s1).2)).p:Nat):Int),.int .u64 (((kg ((jN p.s0,jN p.s1).2)).l:Nat):Int),.int .u64 (((kg ((jN p.s0,jN p.s1).2)).c:Nat):Int),.int .u64 (((kg ((jN p.s0,jN p.s1).2)).r:Nat):Int),.int .i64 100,.int .i64 200,.int .i64 5,.int .i64 16,.int .i64 1,.int .i64 1125899906842624,.int .i64 100,.int .i64 200,.int .i64 6,.int .i64 16,.int .i64 1,.int .i64 1125899906842624,.int .i64 (((p.op:Nat):Int)%2)]:=S
 have X:=(((((((ad.trans u).tb x ad aq).trans t).tb y ad aq).tb z ad aq).trans m).tb n ad aq).tb o ad aq
 refine W.nil (E.jZ (E.jG (WC.region (Wn 1 rfl (Wa (.as (.add rfl rfl (by decide)) rfl) rfl (Wn 1 rfl (W.nil (E.round (qK.step (Sq (Sr (Wn 1 rfl ?_))))))))))))
 refine Wa (.dec (.lss rfl rfl) (show _=false from by first|decide|rfl)) rfl ?_
 refine Nx (WC.kF rfl (WC.exit (E.jJ (E.jJ (E.ko (E.jG (Sr (Wa (.jE VQ rfl) rfl ?_))))))))
 have O:=((((((((V.le u).cn x (by have:=V.lt;omega)).le t).cn y (by have:=V.lt;omega)).cn z (by have:=V.lt;omega)).le m).cn n (by have:=V.lt;omega)).cn o (by have:=V.lt;omega))
 refine Wr (.jF (v:= .int .u16 ((p.no:Nat):Int)) aaf rfl O rfl) rfl (Wr (.Su (y5 underlying27) underlying3 rfl (IntWalk.i64_in _ (by omega))) rfl (Wa (.jE VO rfl) rfl (Wr (.jF (v:= .int .u8 ((p.ra:Nat):Int)) IB rfl O rfl) rfl (Wa (.V7 rfl rfl (by omega)) rfl (Wr (.Su (y5 underlying5) underlying3 rfl (IntWalk.i64_in _ (by omega))) rfl ?_)))))
 refine Wa (.kK [.int .i64 ((p.no:Nat):Int),.int .i64 0,.int .i64 0,.slice none 0 0,.int .i64 (((p.ra:Nat):Int)%8)] abh z55 rfl rfl) rfl (W.ef rfl rfl rfl (Ef.jR z55 fun R cc Y (cd:jL cc R 55 #[.int .i64 0,.int .i64 0,.int .i64 0,.slice none 0 0,.int .i64 (0)]) L=>(W.sA xS rfl rfl cd ?_)))
 intro ce aK N
 have aK:jL ce R 55 #[.int .i64 ((p.no:Nat):Int),.int .i64 0,.int .i64 0,.slice none 0 0,.int .i64 (((p.ra:Nat):Int)%8)]:=aK
 refine Nx (Sr (Wa (.jE VN rfl) rfl ?_))
 have ax:=((O.le L).cn N (by have:=O.lt;omega))
 refine Wr (.jF (v:= .int .u32 ((p.ow:Nat):Int)) lQ rfl ax rfl) rfl (Wr (.Su (y5 underlying25) underlying3 rfl (IntWalk.i64_in _ (by omega))) rfl (Wa (.jE qA rfl) rfl ?_))
 have a7:=((S.le L).cn N (by have:=S.lt;omega))
 refine Wr (.jF (v:= .int .i64 (20000+((p.am:Nat):Int))) j5 rfl a7 rfl) rfl (Wa (.add rfl rfl (by omega)) rfl (Wa (.rem rfl rfl (by omega)) rfl (Wa (.jE lT rfl) rfl (Wa (.j3 0 underlying52 kz rfl rfl rfl (by omega)) rfl (W.kP rfl rfl ?_)))))
 refine Ef.store kz rfl rfl aK (by first|decide|(simp;done)) rfl ?_
 intro cf ay J
 have ay:jL cf R 55 #[.int .i64 ((p.no:Nat):Int),.int .i64 (((p.ow:Nat):Int)%((20000+((p.am:Nat):Int))+1)),.int .i64 0,.slice none 0 0,.int .i64 (((p.ra:Nat):Int)%8)]:=ay
 refine Nx (Sr (Wa (.jE qA rfl) rfl ?_))
 have a8:=(a7.cn J (by have:=S.lt;omega))
 refine Wr (.jF (v:= .int .i64 (20000+((p.am:Nat):Int))) j5 rfl a8 rfl) rfl (Wa (.jE lT rfl) rfl (Wa (.j3 0 underlying52 kz rfl rfl rfl (by omega)) rfl (Wr (.jF (v:= .int .i64 (((p.ow:Nat):Int)%((20000+((p.am:Nat):Int))+1))) j5 rfl ay rfl) rfl (Wa (.sub rfl rfl (by omega)) rfl (Wa (.jE lT rfl) rfl ?_)))))
 refine Wa (.j3 1 underlying52 kz rfl rfl rfl (by omega)) rfl (W.kP rfl rfl (Ef.store kz rfl rfl ay (by first|decide|(simp;done)) rfl ?_))
 intro a9 ae K
 have ae:jL a9 R 55 #[.int .i64 ((p.no:Nat):Int),.int .i64 (((p.ow:Nat):Int)%((20000+((p.am:Nat):Int))+1)),.int .i64 ((20000+((p.am:Nat):Int))-(((p.ow:Nat):Int)%((20000+((p.am:Nat):Int))+1))),.slice none 0 0,.int .i64 (((p.ra:Nat):Int)%8)]:=ae
 refine Nx (Sr ?_)
 have az:=(a8.cn K (by have:=S.lt;omega))
 refine Wr (.jK pU (by rfl) rfl az) rfl ?_
 refine Wr (.jK nU (by rfl) rfl ae) rfl ?_
 refine W.cl aaL rfl rfl (Il (rE p) hch (s:=E9 p) a9 bR) ?_
 rintro _ cQ ⟨rfl,H⟩
 have aL:=((((X.trans L).tb N X Y).tb J X Y).tb K X Y).trans H
 refine Wn 1 rfl (Nx (Sq (Sr (Wn 2 rfl (Nx ?_)))))
 by_cases c1:u7 (E9 p).rt 0<=(E9 p).h (rE p).op
 ·refine Cn rfl (congrArg not (dT c1)) (Sn (Sq (Sr (Wn 1 rfl (Nx (WC.block (WC.rounds 1 (qK.step (Sq (Sr (Wn 1 rfl (Wa (.jE HY rfl) rfl ?_))))))))))))
  refine Wr (.jF (v:= .slice p.oa p.on p.oc) Vz rfl (((ax.cn J (by have:=O.lt;omega)).cn K (by have:=O.lt;omega)).le H) rfl) rfl ?_
  refine Wr (.len underlying26 rfl) rfl (Wa (.dec (.lss rfl rfl) (dF (by omega))) rfl (Wn 4 rfl (Nx (WC.kF rfl (WC.exit (E.jJ (E.jJ (E.ko (E.jG (Sq ?_))))))))))
  refine WC.LP (fun ar w'=>Le w w'/\jL w' T 47 #[.int .u8 0,.int .u8 0,.int .u8 0,.int .u8 0,.int .u8 0,.int .u8 0,.int .u8 0,.int .u8 0,.int .u8 0,.int .u8 0,.int .u8 0,.int .u8 0,.int .u8 0,.int .u8 0,.int .u8 0,.int .u8 0,.int .u8 0,.int .u8 0,.int .u8 0,.int .u8 0,.int .u8 0,.int .u8 0,.int .u8 0,.int .u8 0,.int .u8 0,.int .u8 0,.int .u8 0,.int .u8 0,.int .u8 0,.int .u8 0,.int .u8 0,.int .u8 0,.int .i64 0,.int .i64 (20000+((p.am:Nat):Int)),.int .u64 (((kg ((jN p.s0,jN p.s1).1)).f:Nat):Int),.int .u64 (((kg ((jN p.s0,jN p.s1).1)).p:Nat):Int),.int .u64 (((kg ((jN p.s0,jN p.s1).1)).l:Nat):Int),.int .u64 (((kg ((jN p.s0,jN p.s1).1)).c:Nat):Int),.int .u64 (((kg ((jN p.s0,jN p.s1).1)).r:Nat):Int),.int .u64 (((kg ((jN p.s0,jN p.s1).2)).f:Nat):Int),.int .u64 (((kg ((jN p.s0,jN p.s1).2)).p:Nat):Int),.int .u64 (((kg ((jN p.s0,jN p.s1).2)).l:Nat):Int),.int .u64 (((kg ((jN p.s0,jN p.s1).2)).c:Nat):Int),.int .u64 (((kg ((jN p.s0,jN p.s1).2)).r:Nat):Int),.int .i64 100,.int .i64 200,.int .i64 5,.int .i64 16,.int .i64 1,.int .i64 1125899906842624,.int .i64 100,.int .i64 200,.int .i64 6,.int .i64 16,.int .i64 1,.int .i64 1125899906842624,.int .i64 (((p.op:Nat):Int)%2)]/\jL w' P 51 (rU (jN p.s0,jN p.s1)).toArray/\jL w' R 55 #[.int .i64 ((p.no:Nat):Int),.int .i64 (((p.ow:Nat):Int)%((20000+((p.am:Nat):Int))+1)),.int .i64 ((20000+((p.am:Nat):Int))-(((p.ow:Nat):Int)%((20000+((p.am:Nat):Int))+1))),.slice none 0 0,.int .i64 (((p.ra:Nat):Int)%8)]) [0,1,2,3,4,5] mixed (by kernel_rfl) ?_
  intro ar F
  have ba:=aL.trans F
  have bb:=(az.le (H.trans F))
  have bc:=((((((((I.le m).cn n (by have:=Q.lt;omega)).cn o (by have:=Q.lt;omega)).le L).cn N (by have:=I.lt;have:=m.size;have:=n.size;have:=o.size;omega)).cn J (by have:=I.lt;have:=m.size;have:=n.size;have:=o.size;omega)).cn K (by have:=I.lt;have:=m.size;have:=n.size;have:=o.size;omega)).le (H.trans F))
  have bd:=(ae.le (H.trans F))
  refine⟨⟨ba,bb,bc,bd⟩,?_⟩
  refine GS.rd rfl rfl (fun w' hs=> .jK pU (by rfl) rfl hs.2.1) rfl rfl rfl ?_
  refine GS.rd rfl rfl (fun w' hs=> .jK NB (by rfl) rfl hs.2.2.1) rfl rfl rfl ?_
  refine GS.rd rfl rfl (fun w' hs=> .jK nU (by rfl) rfl hs.2.2.2) rfl rfl rfl ?_
  have cg:=(((((((((((((((A.le (B.trans (e.trans (b.trans h_1)))).cn d (by have:=A.lt;have:=B.size;have:=e.size;have:=b.size;omega)).le u).cn x (by have:=A.lt;have:=B.size;have:=e.size;have:=b.size;have:=h_1.size;have:=d.size;omega)).le t).cn y (by have:=A.lt;have:=B.size;have:=e.size;have:=b.size;have:=h_1.size;have:=d.size;omega)).cn z (by have:=A.lt;have:=B.size;have:=e.size;have:=b.size;have:=h_1.size;have:=d.size;omega)).le m).cn n (by have:=A.lt;have:=B.size;have:=e.size;have:=b.size;have:=h_1.size;have:=d.size;omega)).cn o (by have:=A.lt;have:=B.size;have:=e.size;have:=b.size;have:=h_1.size;have:=d.size;omega)).le L).cn N (by have:=A.lt;have:=B.size;have:=e.size;have:=b.size;have:=h_1.size;have:=d.size;have:=u.size;have:=x.size;have:=t.size;have:=y.size;have:=z.size;have:=m.size;have:=n.size;have:=o.size;omega)).cn J (by have:=A.lt;have:=B.size;have:=e.size;have:=b.size;have:=h_1.size;have:=d.size;have:=u.size;have:=x.size;have:=t.size;have:=y.size;have:=z.size;have:=m.size;have:=n.size;have:=o.size;omega)).cn K (by have:=A.lt;have:=B.size;have:=e.size;have:=b.size;have:=h_1.size;have:=d.size;have:=u.size;have:=x.size;have:=t.size;have:=y.size;have:=z.size;have:=m.size;have:=n.size;have:=o.size;omega)).le (H.trans F))
  refine GS.kP rfl rfl rfl rfl (Ef.storeAll yQ (by rfl) rfl rfl cg (by rfl) (by simp[Value.oneCell']) ?_)
  intro ci aM af
  have aM:jL ci au 47 #[.int .u8 0,.int .u8 0,.int .u8 0,.int .u8 0,.int .u8 0,.int .u8 0,.int .u8 0,.int .u8 0,.int .u8 0,.int .u8 0,.int .u8 0,.int .u8 0,.int .u8 0,.int .u8 0,.int .u8 0,.int .u8 0,.int .u8 0,.int .u8 0,.int .u8 0,.int .u8 0,.int .u8 0,.int .u8 0,.int .u8 0,.int .u8 0,.int .u8 0,.int .u8 0,.int .u8 0,.int .u8 0,.int .u8 0,.int .u8 0,.int .u8 0,.int .u8 0,.int .i64 0,.int .i64 (20000+((p.am:Nat):Int)),.int .u64 (((kg ((jN p.s0,jN p.s1).1)).f:Nat):Int),.int .u64 (((kg ((jN p.s0,jN p.s1).1)).p:Nat):Int),.int .u64 (((kg ((jN p.s0,jN p.s1).1)).l:Nat):Int),.int .u64 (((kg ((jN p.s0,jN p.s1).1)).c:Nat):Int),.int .u64 (((kg ((jN p.s0,jN p.s1).1)).r:Nat):Int),.int .u64 (((kg ((jN p.s0,jN p.s1).2)).f:Nat):Int),.int .u64 (((kg ((jN p.s0,jN p.s1).2)).p:Nat):Int),.int .u64 (((kg ((jN p.s0,jN p.s1).2)).l:Nat):Int),.int .u64 (((kg ((jN p.s0,jN p.s1).2)).c:Nat):Int),.int .u64 (((kg ((jN p.s0,jN p.s1).2)).r:Nat):Int),.int .i64 100,.int .i64 200,.int .i64 5,.int .i64 16,.int .i64 1,.int .i64 1125899906842624,.int .i64 100,.int .i64 200,.int .i64 6,.int .i64 16,.int .i64 1,.int .i64 1125899906842624,.int .i64 (((p.op:Nat):Int)%2)]:=aM
  have be:=ba.tb af L1 aA
  have bf:=(bb.cn af (by have:=A.lt;have:=B.size;have:=e.size;have:=b.size;have:=h_1.size;have:=d.size;omega))
  have bg:=(bc.cn af (by have:=A.lt;have:=B.size;have:=e.size;have:=b.size;omega))
  have bh:=(bd.cn af (by have:=A.lt;have:=B.size;have:=e.size;have:=b.size;have:=h_1.size;have:=d.size;have:=u.size;have:=x.size;have:=t.size;have:=y.size;have:=z.size;have:=m.size;have:=n.size;have:=o.size;omega))
  refine⟨⟨be,bf,bg,bh⟩,?_⟩
  have cj:=((((((((((((((((C.le (e.trans (b.trans h_1))).cn d (by have:=C.lt;have:=e.size;have:=b.size;omega)).le u).cn x (by have:=C.lt;have:=e.size;have:=b.size;have:=h_1.size;have:=d.size;omega)).le t).cn y (by have:=C.lt;have:=e.size;have:=b.size;have:=h_1.size;have:=d.size;omega)).cn z (by have:=C.lt;have:=e.size;have:=b.size;have:=h_1.size;have:=d.size;omega)).le m).cn n (by have:=C.lt;have:=e.size;have:=b.size;have:=h_1.size;have:=d.size;omega)).cn o (by have:=C.lt;have:=e.size;have:=b.size;have:=h_1.size;have:=d.size;omega)).le L).cn N (by have:=C.lt;have:=e.size;have:=b.size;have:=h_1.size;have:=d.size;have:=u.size;have:=x.size;have:=t.size;have:=y.size;have:=z.size;have:=m.size;have:=n.size;have:=o.size;omega)).cn J (by have:=C.lt;have:=e.size;have:=b.size;have:=h_1.size;have:=d.size;have:=u.size;have:=x.size;have:=t.size;have:=y.size;have:=z.size;have:=m.size;have:=n.size;have:=o.size;omega)).cn K (by have:=C.lt;have:=e.size;have:=b.size;have:=h_1.size;have:=d.size;have:=u.size;have:=x.size;have:=t.size;have:=y.size;have:=z.size;have:=m.size;have:=n.size;have:=o.size;omega)).le (H.trans F)).cn af (by have:=A.lt;omega))
  refine GS.kP rfl rfl rfl rfl (Ef.storeAll NA (by rfl) rfl rfl cj (by simp only[List.size_toArray,oZ.len]) (oZ.one (jN p.s0,jN p.s1)) ?_)
  intro ck aN ah
  have aN:jL ck av 51 (rU (jN p.s0,jN p.s1)).toArray:=aN
  have bi:=be.tb ah L2 aB
  have bj:=(bf.cn ah (by have:=C.lt;have:=e.size;have:=b.size;have:=h_1.size;have:=d.size;omega))
  have bk:=(bg.cn ah (by have:=C.lt;have:=e.size;have:=b.size;omega))
  have bl:=(bh.cn ah (by have:=C.lt;have:=e.size;have:=b.size;have:=h_1.size;have:=d.size;have:=u.size;have:=x.size;have:=t.size;have:=y.size;have:=z.size;have:=m.size;have:=n.size;have:=o.size;omega))
  refine⟨⟨bi,bj,bk,bl⟩,?_⟩
  have cm:=(((((((((((((((((D.le (b.trans h_1)).cn d (by have:=D.lt;have:=b.size;omega)).le u).cn x (by have:=D.lt;have:=b.size;have:=h_1.size;have:=d.size;omega)).le t).cn y (by have:=D.lt;have:=b.size;have:=h_1.size;have:=d.size;omega)).cn z (by have:=D.lt;have:=b.size;have:=h_1.size;have:=d.size;omega)).le m).cn n (by have:=D.lt;have:=b.size;have:=h_1.size;have:=d.size;omega)).cn o (by have:=D.lt;have:=b.size;have:=h_1.size;have:=d.size;omega)).le L).cn N (by have:=D.lt;have:=b.size;have:=h_1.size;have:=d.size;have:=u.size;have:=x.size;have:=t.size;have:=y.size;have:=z.size;have:=m.size;have:=n.size;have:=o.size;omega)).cn J (by have:=D.lt;have:=b.size;have:=h_1.size;have:=d.size;have:=u.size;have:=x.size;have:=t.size;have:=y.size;have:=z.size;have:=m.size;have:=n.size;have:=o.size;omega)).cn K (by have:=D.lt;have:=b.size;have:=h_1.size;have:=d.size;have:=u.size;have:=x.size;have:=t.size;have:=y.size;have:=z.size;have:=m.size;have:=n.size;have:=o.size;omega)).le (H.trans F)).cn af (by have:=A.lt;have:=B.size;omega)).cn ah (by have:=C.lt;omega))
  refine GS.kP rfl rfl rfl rfl (Ef.storeAll xS (by rfl) rfl rfl cm (by rfl) (by simp[Value.oneCell']) ?_)
  intro co aO ai
  have aO:jL co aw 55 #[.int .i64 ((p.no:Nat):Int),.int .i64 (((p.ow:Nat):Int)%((20000+((p.am:Nat):Int))+1)),.int .i64 ((20000+((p.am:Nat):Int))-(((p.ow:Nat):Int)%((20000+((p.am:Nat):Int))+1))),.slice none 0 0,.int .i64 (((p.ra:Nat):Int)%8)]:=aO
  have bm:=bi.tb ai L3 aC
  refine⟨⟨bm,(bj.cn ai (by have:=D.lt;have:=b.size;have:=h_1.size;have:=d.size;omega)),(bk.cn ai (by have:=D.lt;have:=b.size;omega)),(bl.cn ai (by have:=D.lt;have:=b.size;have:=h_1.size;have:=d.size;have:=u.size;have:=x.size;have:=t.size;have:=y.size;have:=z.size;have:=m.size;have:=n.size;have:=o.size;omega))⟩,?_⟩
  refine GS.nil (E.jG (Rt (E.Pt rfl (lS rfl ((aM.cn ah (by have:=A.lt;omega)).cn ai (by have:=A.lt;have:=B.size;omega)) pU (by rfl)) (lS rfl (aN.cn ai (by have:=C.lt;omega)) NB (by rfl)) (lS rfl aO nU (by rfl)) ?_)))
  exact⟨by unfold kJ;rw[if_pos (by assumption)];rfl,bm⟩
 refine Cy rfl (congrArg not (dF c1)) (Sr ?_)
 by_cases cR:((p.op:Nat):Int)%2=0
 ·refine Wa (.jE vF rfl) rfl ?_
  have aP:=(az.le H)
  refine Wr (.jF (v:= .int .i64 (((p.op:Nat):Int)%2)) j5 rfl aP rfl) rfl (Wa (.jE qA rfl) rfl (Wr (.jF (v:= .int .i64 (20000+((p.am:Nat):Int))) j5 rfl aP rfl) rfl (Wa (.jE lT rfl) rfl (Wa (.j3 0 underlying52 kz rfl rfl (by omega) (by omega)) rfl (W.kP rfl rfl ?_)))))
  refine Ef.store kz rfl rfl (ae.le H) (by first|decide|(simp;done)) rfl ?_
  intro cp aQ Z
  have aQ:jL cp R 55 #[.int .i64 ((p.no:Nat):Int),.int .i64 (20000+((p.am:Nat):Int)),.int .i64 ((20000+((p.am:Nat):Int))-(((p.ow:Nat):Int)%((20000+((p.am:Nat):Int))+1))),.slice none 0 0,.int .i64 (((p.ra:Nat):Int)%8)]:=aQ
  refine Nx (WC.region (Wa (.jE vF rfl) rfl ?_))
  have bn:=(aP.cn Z (by have:=S.lt;omega))
  refine Wr (.jF (v:= .int .i64 (((p.op:Nat):Int)%2)) j5 rfl bn rfl) rfl (Wa (.sub rfl rfl (by omega)) rfl (Wa (.jE lT rfl) rfl (Wa (.j3 1 underlying52 kz rfl rfl (by omega) (by omega)) rfl (W.kP rfl rfl (Ef.store kz rfl rfl aQ (by first|decide|(simp;done)) rfl ?_)))))
  intro cq aR aa
  have aR:jL cq R 55 #[.int .i64 ((p.no:Nat):Int),.int .i64 (20000+((p.am:Nat):Int)),.int .i64 0,.slice none 0 0,.int .i64 (((p.ra:Nat):Int)%8)]:=aR
  refine Nx (Sq (Sr (Wn 1 rfl (Nx (WC.block (WC.rounds 1 (qK.step (Sq (Sr (Wn 1 rfl (Wa (.jE HY rfl) rfl (Wr (.jF (v:= .slice p.oa p.on p.oc) Vz rfl (((((ax.cn J (by have:=O.lt;omega)).cn K (by have:=O.lt;omega)).le H).cn Z (by have:=O.lt;omega)).cn aa (by have:=O.lt;omega)) rfl) rfl ?_))))))))))))
  refine Wr (.len underlying26 rfl) rfl (Wa (.dec (.lss rfl rfl) (dF (by omega))) rfl (Wn 4 rfl (Nx (WC.kF rfl (WC.exit (E.jJ (E.jJ (E.ko (E.jG (Sq ?_))))))))))
  refine WC.LP (fun ar w'=>Le w w'/\jL w' T 47 #[.int .u8 0,.int .u8 0,.int .u8 0,.int .u8 0,.int .u8 0,.int .u8 0,.int .u8 0,.int .u8 0,.int .u8 0,.int .u8 0,.int .u8 0,.int .u8 0,.int .u8 0,.int .u8 0,.int .u8 0,.int .u8 0,.int .u8 0,.int .u8 0,.int .u8 0,.int .u8 0,.int .u8 0,.int .u8 0,.int .u8 0,.int .u8 0,.int .u8 0,.int .u8 0,.int .u8 0,.int .u8 0,.int .u8 0,.int .u8 0,.int .u8 0,.int .u8 0,.int .i64 0,.int .i64 (20000+((p.am:Nat):Int)),.int .u64 (((kg ((jN p.s0,jN p.s1).1)).f:Nat):Int),.int .u64 (((kg ((jN p.s0,jN p.s1).1)).p:Nat):Int),.int .u64 (((kg ((jN p.s0,jN p.s1).1)).l:Nat):Int),.int .u64 (((kg ((jN p.s0,jN p.s1).1)).c:Nat):Int),.int .u64 (((kg ((jN p.s0,jN p.s1).1)).r:Nat):Int),.int .u64 (((kg ((jN p.s0,jN p.s1).2)).f:Nat):Int),.int .u64 (((kg ((jN p.s0,jN p.s1).2)).p:Nat):Int),.int .u64 (((kg ((jN p.s0,jN p.s1).2)).l:Nat):Int),.int .u64 (((kg ((jN p.s0,jN p.s1).2)).c:Nat):Int),.int .u64 (((kg ((jN p.s0,jN p.s1).2)).r:Nat):Int),.int .i64 100,.int .i64 200,.int .i64 5,.int .i64 16,.int .i64 1,.int .i64 1125899906842624,.int .i64 100,.int .i64 200,.int .i64 6,.int .i64 16,.int .i64 1,.int .i64 1125899906842624,.int .i64 (((p.op:Nat):Int)%2)]/\jL w' P 51 (rU (jN p.s0,jN p.s1)).toArray/\jL w' R 55 #[.int .i64 ((p.no:Nat):Int),.int .i64 (20000+((p.am:Nat):Int)),.int .i64 0,.slice none 0 0,.int .i64 (((p.ra:Nat):Int)%8)]) [0,1,2,3,4,5] mixed (by kernel_rfl) ?_
  intro ar F
  have bo:=((aL.tb Z X Y).tb aa X Y).trans F
  have bp:=((bn.cn aa (by have:=S.lt;omega)).le F)
  have bq:=(((((((((((I.le m).cn n (by have:=Q.lt;omega)).cn o (by have:=Q.lt;omega)).le L).cn N (by have:=I.lt;have:=m.size;have:=n.size;have:=o.size;omega)).cn J (by have:=I.lt;have:=m.size;have:=n.size;have:=o.size;omega)).cn K (by have:=I.lt;have:=m.size;have:=n.size;have:=o.size;omega)).le H).cn Z (by have:=I.lt;have:=m.size;have:=n.size;have:=o.size;omega)).cn aa (by have:=I.lt;have:=m.size;have:=n.size;have:=o.size;omega)).le F)
  have bs:=(aR.le F)
  refine⟨⟨bo,bp,bq,bs⟩,?_⟩
  refine GS.rd rfl rfl (fun w' hs=> .jK pU (by rfl) rfl hs.2.1) rfl rfl rfl ?_
  refine GS.rd rfl rfl (fun w' hs=> .jK NB (by rfl) rfl hs.2.2.1) rfl rfl rfl ?_
  refine GS.rd rfl rfl (fun w' hs=> .jK nU (by rfl) rfl hs.2.2.2) rfl rfl rfl ?_
  have cr:=((((((((((((((((((A.le (B.trans (e.trans (b.trans h_1)))).cn d (by have:=A.lt;have:=B.size;have:=e.size;have:=b.size;omega)).le u).cn x (by have:=A.lt;have:=B.size;have:=e.size;have:=b.size;have:=h_1.size;have:=d.size;omega)).le t).cn y (by have:=A.lt;have:=B.size;have:=e.size;have:=b.size;have:=h_1.size;have:=d.size;omega)).cn z (by have:=A.lt;have:=B.size;have:=e.size;have:=b.size;have:=h_1.size;have:=d.size;omega)).le m).cn n (by have:=A.lt;have:=B.size;have:=e.size;have:=b.size;have:=h_1.size;have:=d.size;omega)).cn o (by have:=A.lt;have:=B.size;have:=e.size;have:=b.size;have:=h_1.size;have:=d.size;omega)).le L).cn N (by have:=A.lt;have:=B.size;have:=e.size;have:=b.size;have:=h_1.size;have:=d.size;have:=u.size;have:=x.size;have:=t.size;have:=y.size;have:=z.size;have:=m.size;have:=n.size;have:=o.size;omega)).cn J (by have:=A.lt;have:=B.size;have:=e.size;have:=b.size;have:=h_1.size;have:=d.size;have:=u.size;have:=x.size;have:=t.size;have:=y.size;have:=z.size;have:=m.size;have:=n.size;have:=o.size;omega)).cn K (by have:=A.lt;have:=B.size;have:=e.size;have:=b.size;have:=h_1.size;have:=d.size;have:=u.size;have:=x.size;have:=t.size;have:=y.size;have:=z.size;have:=m.size;have:=n.size;have:=o.size;omega)).le H).cn Z (by have:=A.lt;have:=B.size;have:=e.size;have:=b.size;have:=h_1.size;have:=d.size;have:=u.size;have:=x.size;have:=t.size;have:=y.size;have:=z.size;have:=m.size;have:=n.size;have:=o.size;omega)).cn aa (by have:=A.lt;have:=B.size;have:=e.size;have:=b.size;have:=h_1.size;have:=d.size;have:=u.size;have:=x.size;have:=t.size;have:=y.size;have:=z.size;have:=m.size;have:=n.size;have:=o.size;omega)).le F)
  refine GS.kP rfl rfl rfl rfl (Ef.storeAll yQ (by rfl) rfl rfl cr (by rfl) (by simp[Value.oneCell']) ?_)
  intro cs aS aj
  have aS:jL cs au 47 #[.int .u8 0,.int .u8 0,.int .u8 0,.int .u8 0,.int .u8 0,.int .u8 0,.int .u8 0,.int .u8 0,.int .u8 0,.int .u8 0,.int .u8 0,.int .u8 0,.int .u8 0,.int .u8 0,.int .u8 0,.int .u8 0,.int .u8 0,.int .u8 0,.int .u8 0,.int .u8 0,.int .u8 0,.int .u8 0,.int .u8 0,.int .u8 0,.int .u8 0,.int .u8 0,.int .u8 0,.int .u8 0,.int .u8 0,.int .u8 0,.int .u8 0,.int .u8 0,.int .i64 0,.int .i64 (20000+((p.am:Nat):Int)),.int .u64 (((kg ((jN p.s0,jN p.s1).1)).f:Nat):Int),.int .u64 (((kg ((jN p.s0,jN p.s1).1)).p:Nat):Int),.int .u64 (((kg ((jN p.s0,jN p.s1).1)).l:Nat):Int),.int .u64 (((kg ((jN p.s0,jN p.s1).1)).c:Nat):Int),.int .u64 (((kg ((jN p.s0,jN p.s1).1)).r:Nat):Int),.int .u64 (((kg ((jN p.s0,jN p.s1).2)).f:Nat):Int),.int .u64 (((kg ((jN p.s0,jN p.s1).2)).p:Nat):Int),.int .u64 (((kg ((jN p.s0,jN p.s1).2)).l:Nat):Int),.int .u64 (((kg ((jN p.s0,jN p.s1).2)).c:Nat):Int),.int .u64 (((kg ((jN p.s0,jN p.s1).2)).r:Nat):Int),.int .i64 100,.int .i64 200,.int .i64 5,.int .i64 16,.int .i64 1,.int .i64 1125899906842624,.int .i64 100,.int .i64 200,.int .i64 6,.int .i64 16,.int .i64 1,.int .i64 1125899906842624,.int .i64 (((p.op:Nat):Int)%2)]:=aS
  have bt:=bo.tb aj L1 aA
  have bu:=(bp.cn aj (by have:=A.lt;have:=B.size;have:=e.size;have:=b.size;have:=h_1.size;have:=d.size;omega))
  have bv:=(bq.cn aj (by have:=A.lt;have:=B.size;have:=e.size;have:=b.size;omega))
  have bw:=(bs.cn aj (by have:=A.lt;have:=B.size;have:=e.size;have:=b.size;have:=h_1.size;have:=d.size;have:=u.size;have:=x.size;have:=t.size;have:=y.size;have:=z.size;have:=m.size;have:=n.size;have:=o.size;omega))
  refine⟨⟨bt,bu,bv,bw⟩,?_⟩
  have ct:=(((((((((((((((((((C.le (e.trans (b.trans h_1))).cn d (by have:=C.lt;have:=e.size;have:=b.size;omega)).le u).cn x (by have:=C.lt;have:=e.size;have:=b.size;have:=h_1.size;have:=d.size;omega)).le t).cn y (by have:=C.lt;have:=e.size;have:=b.size;have:=h_1.size;have:=d.size;omega)).cn z (by have:=C.lt;have:=e.size;have:=b.size;have:=h_1.size;have:=d.size;omega)).le m).cn n (by have:=C.lt;have:=e.size;have:=b.size;have:=h_1.size;have:=d.size;omega)).cn o (by have:=C.lt;have:=e.size;have:=b.size;have:=h_1.size;have:=d.size;omega)).le L).cn N (by have:=C.lt;have:=e.size;have:=b.size;have:=h_1.size;have:=d.size;have:=u.size;have:=x.size;have:=t.size;have:=y.size;have:=z.size;have:=m.size;have:=n.size;have:=o.size;omega)).cn J (by have:=C.lt;have:=e.size;have:=b.size;have:=h_1.size;have:=d.size;have:=u.size;have:=x.size;have:=t.size;have:=y.size;have:=z.size;have:=m.size;have:=n.size;have:=o.size;omega)).cn K (by have:=C.lt;have:=e.size;have:=b.size;have:=h_1.size;have:=d.size;have:=u.size;have:=x.size;have:=t.size;have:=y.size;have:=z.size;have:=m.size;have:=n.size;have:=o.size;omega)).le H).cn Z (by have:=C.lt;have:=e.size;have:=b.size;have:=h_1.size;have:=d.size;have:=u.size;have:=x.size;have:=t.size;have:=y.size;have:=z.size;have:=m.size;have:=n.size;have:=o.size;omega)).cn aa (by have:=C.lt;have:=e.size;have:=b.size;have:=h_1.size;have:=d.size;have:=u.size;have:=x.size;have:=t.size;have:=y.size;have:=z.size;have:=m.size;have:=n.size;have:=o.size;omega)).le F).cn aj (by have:=A.lt;omega))
  refine GS.kP rfl rfl rfl rfl (Ef.storeAll NA (by rfl) rfl rfl ct (by simp only[List.size_toArray,oZ.len]) (oZ.one (jN p.s0,jN p.s1)) ?_)
  intro cu aT ak
  have aT:jL cu av 51 (rU (jN p.s0,jN p.s1)).toArray:=aT
  have bx:=bt.tb ak L2 aB
  have bz:=(bu.cn ak (by have:=C.lt;have:=e.size;have:=b.size;have:=h_1.size;have:=d.size;omega))
  have bA:=(bv.cn ak (by have:=C.lt;have:=e.size;have:=b.size;omega))
  have bB:=(bw.cn ak (by have:=C.lt;have:=e.size;have:=b.size;have:=h_1.size;have:=d.size;have:=u.size;have:=x.size;have:=t.size;have:=y.size;have:=z.size;have:=m.size;have:=n.size;have:=o.size;omega))
  refine⟨⟨bx,bz,bA,bB⟩,?_⟩
  have cv:=((((((((((((((((((((D.le (b.trans h_1)).cn d (by have:=D.lt;have:=b.size;omega)).le u).cn x (by have:=D.lt;have:=b.size;have:=h_1.size;have:=d.size;omega)).le t).cn y (by have:=D.lt;have:=b.size;have:=h_1.size;have:=d.size;omega)).cn z (by have:=D.lt;have:=b.size;have:=h_1.size;have:=d.size;omega)).le m).cn n (by have:=D.lt;have:=b.size;have:=h_1.size;have:=d.size;omega)).cn o (by have:=D.lt;have:=b.size;have:=h_1.size;have:=d.size;omega)).le L).cn N (by have:=D.lt;have:=b.size;have:=h_1.size;have:=d.size;have:=u.size;have:=x.size;have:=t.size;have:=y.size;have:=z.size;have:=m.size;have:=n.size;have:=o.size;omega)).cn J (by have:=D.lt;have:=b.size;have:=h_1.size;have:=d.size;have:=u.size;have:=x.size;have:=t.size;have:=y.size;have:=z.size;have:=m.size;have:=n.size;have:=o.size;omega)).cn K (by have:=D.lt;have:=b.size;have:=h_1.size;have:=d.size;have:=u.size;have:=x.size;have:=t.size;have:=y.size;have:=z.size;have:=m.size;have:=n.size;have:=o.size;omega)).le H).cn Z (by have:=D.lt;have:=b.size;have:=h_1.size;have:=d.size;have:=u.size;have:=x.size;have:=t.size;have:=y.size;have:=z.size;have:=m.size;have:=n.size;have:=o.size;omega)).cn aa (by have:=D.lt;have:=b.size;have:=h_1.size;have:=d.size;have:=u.size;have:=x.size;have:=t.size;have:=y.size;have:=z.size;have:=m.size;have:=n.size;have:=o.size;omega)).le F).cn aj (by have:=A.lt;have:=B.size;omega)).cn ak (by have:=C.lt;omega))
  refine GS.kP rfl rfl rfl rfl (Ef.storeAll xS (by rfl) rfl rfl cv (by rfl) (by simp[Value.oneCell']) ?_)
  intro cw aU al
  have aU:jL cw aw 55 #[.int .i64 ((p.no:Nat):Int),.int .i64 (20000+((p.am:Nat):Int)),.int .i64 0,.slice none 0 0,.int .i64 (((p.ra:Nat):Int)%8)]:=aU
  have bC:=bx.tb al L3 aC
  refine⟨⟨bC,(bz.cn al (by have:=D.lt;have:=b.size;have:=h_1.size;have:=d.size;omega)),(bA.cn al (by have:=D.lt;have:=b.size;omega)),(bB.cn al (by have:=D.lt;have:=b.size;have:=h_1.size;have:=d.size;have:=u.size;have:=x.size;have:=t.size;have:=y.size;have:=z.size;have:=m.size;have:=n.size;have:=o.size;omega))⟩,?_⟩
  refine GS.nil (E.jG (Rt (E.Pt rfl (lS rfl ((aS.cn ak (by have:=A.lt;omega)).cn al (by have:=A.lt;have:=B.size;omega)) pU (by rfl)) (lS rfl (aT.cn al (by have:=C.lt;omega)) NB (by rfl)) (lS rfl aU nU (by rfl)) ?_)))
  exact⟨by unfold kJ;rw[if_neg (by assumption),if_pos (by assumption)];rfl,bC⟩
 refine Wa (.jE vF rfl) rfl ?_
 have aV:=(az.le H)
 refine Wr (.jF (v:= .int .i64 (((p.op:Nat):Int)%2)) j5 rfl aV rfl) rfl (Wa (.jE qA rfl) rfl (Wr (.jF (v:= .int .i64 (20000+((p.am:Nat):Int))) j5 rfl aV rfl) rfl (Wa (.jE lT rfl) rfl (Wa (.j3 1 underlying52 kz rfl rfl (by omega) (by omega)) rfl (W.kP rfl rfl ?_)))))
 refine Ef.store kz rfl rfl (ae.le H) (by first|decide|(simp;done)) rfl ?_
 intro cx aW ab
 have aW:jL cx R 55 #[.int .i64 ((p.no:Nat):Int),.int .i64 (((p.ow:Nat):Int)%((20000+((p.am:Nat):Int))+1)),.int .i64 (20000+((p.am:Nat):Int)),.slice none 0 0,.int .i64 (((p.ra:Nat):Int)%8)]:=aW
 refine Nx (WC.region (Wa (.jE vF rfl) rfl ?_))
 have bD:=(aV.cn ab (by have:=S.lt;omega))
 refine Wr (.jF (v:= .int .i64 (((p.op:Nat):Int)%2)) j5 rfl bD rfl) rfl (Wa (.sub rfl rfl (by omega)) rfl (Wa (.jE lT rfl) rfl (Wa (.j3 0 underlying52 kz rfl rfl (by omega) (by omega)) rfl (W.kP rfl rfl (Ef.store kz rfl rfl aW (by first|decide|(simp;done)) rfl ?_)))))
 intro cy aX ac
 have aX:jL cy R 55 #[.int .i64 ((p.no:Nat):Int),.int .i64 0,.int .i64 (20000+((p.am:Nat):Int)),.slice none 0 0,.int .i64 (((p.ra:Nat):Int)%8)]:=aX
 refine Nx (Sq (Sr (Wn 1 rfl (Nx (WC.block (WC.rounds 1 (qK.step (Sq (Sr (Wn 1 rfl (Wa (.jE HY rfl) rfl (Wr (.jF (v:= .slice p.oa p.on p.oc) Vz rfl (((((ax.cn J (by have:=O.lt;omega)).cn K (by have:=O.lt;omega)).le H).cn ab (by have:=O.lt;omega)).cn ac (by have:=O.lt;omega)) rfl) rfl ?_))))))))))))
 refine Wr (.len underlying26 rfl) rfl (Wa (.dec (.lss rfl rfl) (dF (by omega))) rfl (Wn 4 rfl (Nx (WC.kF rfl (WC.exit (E.jJ (E.jJ (E.ko (E.jG (Sq ?_))))))))))
 refine WC.LP (fun ar w'=>Le w w'/\jL w' T 47 #[.int .u8 0,.int .u8 0,.int .u8 0,.int .u8 0,.int .u8 0,.int .u8 0,.int .u8 0,.int .u8 0,.int .u8 0,.int .u8 0,.int .u8 0,.int .u8 0,.int .u8 0,.int .u8 0,.int .u8 0,.int .u8 0,.int .u8 0,.int .u8 0,.int .u8 0,.int .u8 0,.int .u8 0,.int .u8 0,.int .u8 0,.int .u8 0,.int .u8 0,.int .u8 0,.int .u8 0,.int .u8 0,.int .u8 0,.int .u8 0,.int .u8 0,.int .u8 0,.int .i64 0,.int .i64 (20000+((p.am:Nat):Int)),.int .u64 (((kg ((jN p.s0,jN p.s1).1)).f:Nat):Int),.int .u64 (((kg ((jN p.s0,jN p.s1).1)).p:Nat):Int),.int .u64 (((kg ((jN p.s0,jN p.s1).1)).l:Nat):Int),.int .u64 (((kg ((jN p.s0,jN p.s1).1)).c:Nat):Int),.int .u64 (((kg ((jN p.s0,jN p.s1).1)).r:Nat):Int),.int .u64 (((kg ((jN p.s0,jN p.s1).2)).f:Nat):Int),.int .u64 (((kg ((jN p.s0,jN p.s1).2)).p:Nat):Int),.int .u64 (((kg ((jN p.s0,jN p.s1).2)).l:Nat):Int),.int .u64 (((kg ((jN p.s0,jN p.s1).2)).c:Nat):Int),.int .u64 (((kg ((jN p.s0,jN p.s1).2)).r:Nat):Int),.int .i64 100,.int .i64 200,.int .i64 5,.int .i64 16,.int .i64 1,.int .i64 1125899906842624,.int .i64 100,.int .i64 200,.int .i64 6,.int .i64 16,.int .i64 1,.int .i64 1125899906842624,.int .i64 (((p.op:Nat):Int)%2)]/\jL w' P 51 (rU (jN p.s0,jN p.s1)).toArray/\jL w' R 55 #[.int .i64 ((p.no:Nat):Int),.int .i64 0,.int .i64 (20000+((p.am:Nat):Int)),.slice none 0 0,.int .i64 (((p.ra:Nat):Int)%8)]) [0,1,2,3,4,5] mixed (by kernel_rfl) ?_
 intro ar F
 have bE:=((aL.tb ab X Y).tb ac X Y).trans F
 have bF:=((bD.cn ac (by have:=S.lt;omega)).le F)
 have bG:=(((((((((((I.le m).cn n (by have:=Q.lt;omega)).cn o (by have:=Q.lt;omega)).le L).cn N (by have:=I.lt;have:=m.size;have:=n.size;have:=o.size;omega)).cn J (by have:=I.lt;have:=m.size;have:=n.size;have:=o.size;omega)).cn K (by have:=I.lt;have:=m.size;have:=n.size;have:=o.size;omega)).le H).cn ab (by have:=I.lt;have:=m.size;have:=n.size;have:=o.size;omega)).cn ac (by have:=I.lt;have:=m.size;have:=n.size;have:=o.size;omega)).le F)
 have bH:=(aX.le F)
 refine⟨⟨bE,bF,bG,bH⟩,?_⟩
 refine GS.rd rfl rfl (fun w' hs=> .jK pU (by rfl) rfl hs.2.1) rfl rfl rfl ?_
 refine GS.rd rfl rfl (fun w' hs=> .jK NB (by rfl) rfl hs.2.2.1) rfl rfl rfl ?_
 refine GS.rd rfl rfl (fun w' hs=> .jK nU (by rfl) rfl hs.2.2.2) rfl rfl rfl ?_
 have cz:=((((((((((((((((((A.le (B.trans (e.trans (b.trans h_1)))).cn d (by have:=A.lt;have:=B.size;have:=e.size;have:=b.size;omega)).le u).cn x (by have:=A.lt;have:=B.size;have:=e.size;have:=b.size;have:=h_1.size;have:=d.size;omega)).le t).cn y (by have:=A.lt;have:=B.size;have:=e.size;have:=b.size;have:=h_1.size;have:=d.size;omega)).cn z (by have:=A.lt;have:=B.size;have:=e.size;have:=b.size;have:=h_1.size;have:=d.size;omega)).le m).cn n (by have:=A.lt;have:=B.size;have:=e.size;have:=b.size;have:=h_1.size;have:=d.size;omega)).cn o (by have:=A.lt;have:=B.size;have:=e.size;have:=b.size;have:=h_1.size;have:=d.size;omega)).le L).cn N (by have:=A.lt;have:=B.size;have:=e.size;have:=b.size;have:=h_1.size;have:=d.size;have:=u.size;have:=x.size;have:=t.size;have:=y.size;have:=z.size;have:=m.size;have:=n.size;have:=o.size;omega)).cn J (by have:=A.lt;have:=B.size;have:=e.size;have:=b.size;have:=h_1.size;have:=d.size;have:=u.size;have:=x.size;have:=t.size;have:=y.size;have:=z.size;have:=m.size;have:=n.size;have:=o.size;omega)).cn K (by have:=A.lt;have:=B.size;have:=e.size;have:=b.size;have:=h_1.size;have:=d.size;have:=u.size;have:=x.size;have:=t.size;have:=y.size;have:=z.size;have:=m.size;have:=n.size;have:=o.size;omega)).le H).cn ab (by have:=A.lt;have:=B.size;have:=e.size;have:=b.size;have:=h_1.size;have:=d.size;have:=u.size;have:=x.size;have:=t.size;have:=y.size;have:=z.size;have:=m.size;have:=n.size;have:=o.size;omega)).cn ac (by have:=A.lt;have:=B.size;have:=e.size;have:=b.size;have:=h_1.size;have:=d.size;have:=u.size;have:=x.size;have:=t.size;have:=y.size;have:=z.size;have:=m.size;have:=n.size;have:=o.size;omega)).le F)
 refine GS.kP rfl rfl rfl rfl (Ef.storeAll yQ (by rfl) rfl rfl cz (by rfl) (by simp[Value.oneCell']) ?_)
 intro cA aY an
 have aY:jL cA au 47 #[.int .u8 0,.int .u8 0,.int .u8 0,.int .u8 0,.int .u8 0,.int .u8 0,.int .u8 0,.int .u8 0,.int .u8 0,.int .u8 0,.int .u8 0,.int .u8 0,.int .u8 0,.int .u8 0,.int .u8 0,.int .u8 0,.int .u8 0,.int .u8 0,.int .u8 0,.int .u8 0,.int .u8 0,.int .u8 0,.int .u8 0,.int .u8 0,.int .u8 0,.int .u8 0,.int .u8 0,.int .u8 0,.int .u8 0,.int .u8 0,.int .u8 0,.int .u8 0,.int .i64 0,.int .i64 (20000+((p.am:Nat):Int)),.int .u64 (((kg ((jN p.s0,jN p.s1).1)).f:Nat):Int),.int .u64 (((kg ((jN p.s0,jN p.s1).1)).p:Nat):Int),.int .u64 (((kg ((jN p.s0,jN p.s1).1)).l:Nat):Int),.int .u64 (((kg ((jN p.s0,jN p.s1).1)).c:Nat):Int),.int .u64 (((kg ((jN p.s0,jN p.s1).1)).r:Nat):Int),.int .u64 (((kg ((jN p.s0,jN p.s1).2)).f:Nat):Int),.int .u64 (((kg ((jN p.s0,jN p.s1).2)).p:Nat):Int),.int .u64 (((kg ((jN p.s0,jN p.s1).2)).l:Nat):Int),.int .u64 (((kg ((jN p.s0,jN p.s1).2)).c:Nat):Int),.int .u64 (((kg ((jN p.s0,jN p.s1).2)).r:Nat):Int),.int .i64 100,.int .i64 200,.int .i64 5,.int .i64 16,.int .i64 1,.int .i64 1125899906842624,.int .i64 100,.int .i64 200,.int .i64 6,.int .i64 16,.int .i64 1,.int .i64 1125899906842624,.int .i64 (((p.op:Nat):Int)%2)]:=aY
 have bI:=bE.tb an L1 aA
 have bJ:=(bF.cn an (by have:=A.lt;have:=B.size;have:=e.size;have:=b.size;have:=h_1.size;have:=d.size;omega))
 have bK:=(bG.cn an (by have:=A.lt;have:=B.size;have:=e.size;have:=b.size;omega))
 have bL:=(bH.cn an (by have:=A.lt;have:=B.size;have:=e.size;have:=b.size;have:=h_1.size;have:=d.size;have:=u.size;have:=x.size;have:=t.size;have:=y.size;have:=z.size;have:=m.size;have:=n.size;have:=o.size;omega))
 refine⟨⟨bI,bJ,bK,bL⟩,?_⟩
 have cB:=(((((((((((((((((((C.le (e.trans (b.trans h_1))).cn d (by have:=C.lt;have:=e.size;have:=b.size;omega)).le u).cn x (by have:=C.lt;have:=e.size;have:=b.size;have:=h_1.size;have:=d.size;omega)).le t).cn y (by have:=C.lt;have:=e.size;have:=b.size;have:=h_1.size;have:=d.size;omega)).cn z (by have:=C.lt;have:=e.size;have:=b.size;have:=h_1.size;have:=d.size;omega)).le m).cn n (by have:=C.lt;have:=e.size;have:=b.size;have:=h_1.size;have:=d.size;omega)).cn o (by have:=C.lt;have:=e.size;have:=b.size;have:=h_1.size;have:=d.size;omega)).le L).cn N (by have:=C.lt;have:=e.size;have:=b.size;have:=h_1.size;have:=d.size;have:=u.size;have:=x.size;have:=t.size;have:=y.size;have:=z.size;have:=m.size;have:=n.size;have:=o.size;omega)).cn J (by have:=C.lt;have:=e.size;have:=b.size;have:=h_1.size;have:=d.size;have:=u.size;have:=x.size;have:=t.size;have:=y.size;have:=z.size;have:=m.size;have:=n.size;have:=o.size;omega)).cn K (by have:=C.lt;have:=e.size;have:=b.size;have:=h_1.size;have:=d.size;have:=u.size;have:=x.size;have:=t.size;have:=y.size;have:=z.size;have:=m.size;have:=n.size;have:=o.size;omega)).le H).cn ab (by have:=C.lt;have:=e.size;have:=b.size;have:=h_1.size;have:=d.size;have:=u.size;have:=x.size;have:=t.size;have:=y.size;have:=z.size;have:=m.size;have:=n.size;have:=o.size;omega)).cn ac (by have:=C.lt;have:=e.size;have:=b.size;have:=h_1.size;have:=d.size;have:=u.size;have:=x.size;have:=t.size;have:=y.size;have:=z.size;have:=m.size;have:=n.size;have:=o.size;omega)).le F).cn an (by have:=A.lt;omega))
 refine GS.kP rfl rfl rfl rfl (Ef.storeAll NA (by rfl) rfl rfl cB (by simp only[List.size_toArray,oZ.len]) (oZ.one (jN p.s0,jN p.s1)) ?_)
 intro cC aZ ao
 have aZ:jL cC av 51 (rU (jN p.s0,jN p.s1)).toArray:=aZ
 have bM:=bI.tb ao L2 aB
 have bN:=(bJ.cn ao (by have:=C.lt;have:=e.size;have:=b.size;have:=h_1.size;have:=d.size;omega))
 have bO:=(bK.cn ao (by have:=C.lt;have:=e.size;have:=b.size;omega))
 have bP:=(bL.cn ao (by have:=C.lt;have:=e.size;have:=b.size;have:=h_1.size;have:=d.size;have:=u.size;have:=x.size;have:=t.size;have:=y.size;have:=z.size;have:=m.size;have:=n.size;have:=o.size;omega))
 refine⟨⟨bM,bN,bO,bP⟩,?_⟩
 have cD:=((((((((((((((((((((D.le (b.trans h_1)).cn d (by have:=D.lt;have:=b.size;omega)).le u).cn x (by have:=D.lt;have:=b.size;have:=h_1.size;have:=d.size;omega)).le t).cn y (by have:=D.lt;have:=b.size;have:=h_1.size;have:=d.size;omega)).cn z (by have:=D.lt;have:=b.size;have:=h_1.size;have:=d.size;omega)).le m).cn n (by have:=D.lt;have:=b.size;have:=h_1.size;have:=d.size;omega)).cn o (by have:=D.lt;have:=b.size;have:=h_1.size;have:=d.size;omega)).le L).cn N (by have:=D.lt;have:=b.size;have:=h_1.size;have:=d.size;have:=u.size;have:=x.size;have:=t.size;have:=y.size;have:=z.size;have:=m.size;have:=n.size;have:=o.size;omega)).cn J (by have:=D.lt;have:=b.size;have:=h_1.size;have:=d.size;have:=u.size;have:=x.size;have:=t.size;have:=y.size;have:=z.size;have:=m.size;have:=n.size;have:=o.size;omega)).cn K (by have:=D.lt;have:=b.size;have:=h_1.size;have:=d.size;have:=u.size;have:=x.size;have:=t.size;have:=y.size;have:=z.size;have:=m.size;have:=n.size;have:=o.size;omega)).le H).cn ab (by have:=D.lt;have:=b.size;have:=h_1.size;have:=d.size;have:=u.size;have:=x.size;have:=t.size;have:=y.size;have:=z.size;have:=m.size;have:=n.size;have:=o.size;omega)).cn ac (by have:=D.lt;have:=b.size;have:=h_1.size;have:=d.size;have:=u.size;have:=x.size;have:=t.size;have:=y.size;have:=z.size;have:=m.size;have:=n.size;have:=o.size;omega)).le F).cn an (by have:=A.lt;have:=B.size;omega)).cn ao (by have:=C.lt;omega))
 refine GS.kP rfl rfl rfl rfl (Ef.storeAll xS (by rfl) rfl rfl cD (by rfl) (by simp[Value.oneCell']) ?_)
 intro cE a0 ap
 have a0:jL cE aw 55 #[.int .i64 ((p.no:Nat):Int),.int .i64 0,.int .i64 (20000+((p.am:Nat):Int)),.slice none 0 0,.int .i64 (((p.ra:Nat):Int)%8)]:=a0
 have bQ:=bM.tb ap L3 aC
 refine⟨⟨bQ,(bN.cn ap (by have:=D.lt;have:=b.size;have:=h_1.size;have:=d.size;omega)),(bO.cn ap (by have:=D.lt;have:=b.size;omega)),(bP.cn ap (by have:=D.lt;have:=b.size;have:=h_1.size;have:=d.size;have:=u.size;have:=x.size;have:=t.size;have:=y.size;have:=z.size;have:=m.size;have:=n.size;have:=o.size;omega))⟩,?_⟩
 refine GS.nil (E.jG (Rt (E.Pt rfl (lS rfl ((aY.cn ao (by have:=A.lt;omega)).cn ap (by have:=A.lt;have:=B.size;omega)) pU (by rfl)) (lS rfl (aZ.cn ap (by have:=C.lt;omega)) NB (by rfl)) (lS rfl a0 nU (by rfl)) ?_)))
 exact⟨by unfold kJ;rw[if_neg (by assumption),if_neg (by assumption)];rfl,bQ⟩
end Go.Proofs.YtcaehidaejhdfaaGreat

namespace Go.Sx
section
variable {P:Program}{env:Env}{n:Nat}{d:Option Nat}{T:TypeId}{p:String}{af:Array Edge}{g:Option (Nat×Bool)}
theorem Any.abu {t ty:TypeId}{x y:Operand}{k':IntKind}{i j:Int}(a m c:Nat)(hx:ev env x=some (.int .i64 i))(hi:i=(a:Int))(hy:ev env y=some (.int k' j))(hj:j=(m:Int))(hm:m<=64)(h:a*2^m=c)(hc:c<9223372036854775808):
    Any P env n ⟨d,.binOp .shl t x y ty,T,p,af,g⟩ (.int .i64 (c:Int)):= .int hx hy fun w=>by
  subst hi hj h
  have b:¬((m:Int)<0):=by omega
  have f:min m IntKind.i64.bits=m:=Nat.min_eq_left hm
  have e:IntKind.i64.wrap ((a:Int)*2^m)=((a*2^m:Nat):Int):=by
    have e1:((a:Int)*2^m)=((a*2^m:Nat):Int):=by rw[Int.natCast_mul,Int.natCast_pow];rfl
    rw[e1];exact IntWalk.i64_in _ (by omega)
  simp only[binOp,Op.shift]
  rw[if_neg b]
  simp only[Int.toNat_natCast,f,e]
  rfl
theorem Any.orI {t ty:TypeId}{x y:Operand}{i j:Int}(a b:Nat)(hx:ev env x=some (.int .i64 i))(hi:i=(a:Int))(hy:ev env y=some (.int .i64 j))(hj:j=(b:Int))(ha:a<9223372036854775808)(hb:b<9223372036854775808):
    Any P env n ⟨d,.binOp .or t x y ty,T,p,af,g⟩ (.int .i64 ((a|||b:Nat):Int)):= .int hx hy fun w=>by
  subst hi hj
  have hlt:a|||b<2^63:=Nat.or_lt_two_pow (by omega) (by omega)
  have h:IntKind.i64.wrap (((BitVec.ofInt 64 (a:Int)|||BitVec.ofInt 64 (b:Int)).toNat:Nat):Int)=((a|||b:Nat):Int):=by
    rw[BitVec.toNat_or,qZ a (by omega),qZ b (by omega)];exact IntWalk.i64_in _ (by omega)
  simp only[binOp,Op.intBits,IntKind.bits,ne_eq,not_true_eq_false,if_false]
  exact congrArg (fun i=>Result.ok (Value.int .i64 i) w) h
end
end Go.Sx
namespace Go.Proofs.YtcaehidaejhdfaaGreat
open Tryz
open Go Go.Sx Go.wI Go.Num Go.Ac Go.rZ Go.Lsp Go.Fv Go.Dk
set_option maxRecDepth 20000
theorem kG (w:World)(F:Nat->Prop):∀k,F k->F k\/w.heap.size<=k:=fun _ h=> .inl h
theorem Io {a k:Nat}(ha:a<128)(hk:k<=8):a*2^(7*k)<9223372036854775808:=by
  have h:2^(7*k)<=2^56:=Nat.pow_le_pow_right (by decide) (by omega)
  have:a*2^(7*k)<=127*2^56:=Nat.mul_le_mul (by omega) h
  omega
theorem U5 {a b:Nat}(ha:a<9223372036854775808)(hb:b<9223372036854775808):a|||b<9223372036854775808:=Nat.or_lt_two_pow (n:=63) ha hb
def uI (xs:List (BitVec 8))(n k:Nat):Bool:=decide (n<=k)||decide (8<k)||(decide (0<k)&&decide ((xs.getD k 0).toNat=0))
structure JS (A:Option Addr)(n:Nat)(xs:List (BitVec 8))(no:Bool)(A':Option Addr)(n' c':Nat)(xs':List (BitVec 8))(no':Bool):Prop where
  cap:n'<=c'
  len:n'<=n
  blk:0<n'->lU A'=lU A
  nop:no=true->no'=true
  sub:∀w:World,Vec w kL 1 A n xs->Vec w kL 1 A' n' xs'
structure RdN (A:Option Addr)(n:Nat)(xs:List (BitVec 8))(no:Bool)(v:Nat)(A':Option Addr)(n' c':Nat)(xs':List (BitVec 8))(no':Bool):Prop where
  Ze:v<9223372036854775808
  b:JS A n xs no A' n' c' xs' no'
  nil:n=0->no'=true
  one:∀d t,xs=d::t->d.toNat<128->v=d.toNat/\xs'=t/\no'=no
structure RdT (A:Option Addr)(n:Nat)(xs:List (BitVec 8))(no:Bool)(m:Nat)(ys:List (BitVec 8))(A':Option Addr)(n' c':Nat)(xs':List (BitVec 8))(no':Bool):Prop where
  yl:ys.length<=n
  ym:ys.length<=m
  b:JS A n xs no A' n' c' xs' no'
  ok:no=false->m<=n->xs'=xs.drop m/\no'=false/\ys=xs.take m
section
variable {A A' A'':Option Addr}{n n' c' n'' c'' g:Nat}{xs xs' Zf:List (BitVec 8)}{no no' Zg:Bool}
theorem JS.trans (h:JS A n xs no A' n' c' xs' no')(k:JS A' n' xs' no' A'' n'' c'' Zf Zg):JS A n xs no A'' n'' c'' Zf Zg:=
  ⟨k.1,Nat.le_trans k.2 h.2,fun b=>(k.3 b).trans (h.3 (by have:=k.2;omega)),fun e=>k.4 (h.4 e),fun w hV=>k.5 w (h.5 w hV)⟩
theorem JS.ne (h:JS A n xs no A' n' c' xs' no')(hne:0<n->lU A≠some g):0<n'->lU A'≠some g:=fun b=>by
  rw[h.blk b];exact hne (by have:=h.len;omega)
theorem JS.nq {w:World}{F:Nat->Prop}(h:JS A n xs no A' n' c' xs' no')(hq:∀q,lU A=some q->0<n->q<w.heap.size->¬F q):∀q,lU A'=some q->0<n'->q<w.heap.size->¬F q:=fun q b c d=>hq q ((h.blk c).symm.trans b) (by have:=h.len;omega) d
theorem JS.none (h:JS A n xs no A' n' c' xs' no'):True:=trivial
theorem Fa:JS A n xs no none 0 0 [] true:=⟨Nat.le_refl _,Nat.zero_le _,fun h=>absurd h (by decide),fun _=>rfl,fun _ _=>Vec.nil _ _ _ _⟩
theorem MF {c k:Nat}(hc:n<=c)(hk:k<=n):JS A n xs no (uq A c k 1) (n-k) (c-k) (xs.drop k) no:=⟨by omega,by omega,fun _=>D7 _ _ _ _,id,fun w hV=>hV.sI c k hk hc kY⟩
end
theorem Q5 {A:Option Addr}{n k:Nat}{xs:List (BitVec 8)}{no:Bool}(hl:xs.length=n)(hk:0<k->128<=(xs.getD 0 0).toNat)(h:uI xs n k=true):RdN A n xs no 0 none 0 0 [] true:=by
  refine⟨by decide,Fa,fun _=>rfl,?_⟩
  intro d t hx hd
  subst hx
  rcases Nat.eq_zero_or_pos k with hz|hp
  · subst hz
    unfold uI at h
    simp at hl h
    omega
  · have:=hk hp
    simp at this
    omega
theorem V9 {A:Option Addr}{n c k v:Nat}{xs:List (BitVec 8)}{no:Bool}(hl:xs.length=n)(hc:n<=c)(hv:v<9223372036854775808)(hz:k=0->v=0)(hk:0<k->128<=(xs.getD 0 0).toNat)(h:¬uI xs n k=true)(hd:(xs.getD k 0).toNat<128):
    RdN A n xs no (v|||(xs.getD k 0).toNat%128*2^(7*k)) (uq A c (k+1) 1) (n-(k+1)) (c-(k+1)) (xs.drop (k+1)) no:=by
  have b:k<=8/\k<n:=by
    unfold uI at h
    simp only[Bool.or_eq_true,Bool.and_eq_true,decide_eq_true_eq,not_or]at h
    omega
  refine⟨U5 hv (Io (Nat.mod_lt _ (by decide)) b.1),MF hc (by omega),fun h=>by omega,?_⟩
  intro d t hx hdd
  rcases Nat.eq_zero_or_pos k with e|hp
  · subst e
    have f:=hz rfl
    subst f hx
    refine⟨?_,rfl,rfl⟩
    simp
    omega
  · have:=hk hp
    subst hx
    simp at this
    omega
theorem GG {Aq:Option Addr}{n cq:Nat}{xs:List (BitVec 8)}(w:World)(hO:Vec w kL 1 Aq n xs)(hn:n<=1000000):Calls prog 116 #[.slice Aq n cq] w fun r w'=>∃(A:Option Addr) (c:Nat),r= .returned (.slice A n c)/\jO w' w.heap.size 5 kL 1 A n c xs/\Le w w':=by
 refine enter func116 rfl rfl ?_
 have b:=Le.refl w
 refine Sr (Wn 1 rfl (Nx (Sq (Sr (Wn 1 rfl (Wa (.isNil underlying122 rfl) rfl (Nx ?_)))))))
 by_cases d:Aq.isNone=true
 ·refine Cy rfl d (Sr (Wn 1 rfl (Nx (Rt (E.jH (E.jI rfl rfl ?_))))))
  have j:n=0:=(by rcases Nat.eq_zero_or_pos n with h|h;exact h;have:=hO.isSome kY h;rw[Option.isNone_iff_eq_none]at d;rw[d]at this;cases this);subst j;have hx:=List.length_eq_zero_iff.1 hO.1;subst hx;exact⟨none,0,rfl,jO.nil _ _ _ _ _ _,b⟩
 refine Cn rfl (Bool.eq_false_iff.2 d) (Sn (Sr (W.ef rfl rfl rfl (Ef.oH underlying122 wV fun k l u v e=>?_))))
 have f:=b.trans e
 have i:jO l w.heap.size 5 kL 1 (some ⟨k,0,none⟩) 0 0 []:=jO.nil _ _ _ _ _ _
 refine Wn 1 rfl (W.ef rfl rfl rfl (Ef.Ps underlying122 wV underlying122 kY rfl i rfl (hO.le f) (by omega) (by unfold maxLen;omega) (by have:=e.size;omega) ?_))
 intro m o x s t y
 refine Wn 1 rfl (Nx (Rt (E.jI rfl rfl ?_)))
 exact⟨m,o,by rw[Nat.zero_add],(by simpa using(s.mono b.size)),(f.kI t (fun q hq=>Nat.le_trans b.size (i.row hq).1))⟩

theorem Ow {Aq:Option Addr}{n cq:Nat}{xs:List Nat}(w:World)(hO:Vec w uN 1 Aq n xs)(hn:n<=1000000):Calls prog 142 #[.slice Aq n cq] w fun r w'=>∃(A:Option Addr) (c:Nat),r= .returned (.slice A n c)/\jO w' w.heap.size 39 uN 1 A n c xs/\Le w w':=by
 refine enter func142 rfl rfl ?_
 have b:=Le.refl w
 refine Sr (Wn 1 rfl (Nx (Sq (Sr (Wn 1 rfl (Wa (.isNil underlying112 rfl) rfl (Nx ?_)))))))
 by_cases d:Aq.isNone=true
 ·refine Cy rfl d (Sr (Wn 1 rfl (Nx (Rt (E.jH (E.jI rfl rfl ?_))))))
  have j:n=0:=(by rcases Nat.eq_zero_or_pos n with h|h;exact h;have:=hO.isSome kU h;rw[Option.isNone_iff_eq_none]at d;rw[d]at this;cases this);subst j;have hx:=List.length_eq_zero_iff.1 hO.1;subst hx;exact⟨none,0,rfl,jO.nil _ _ _ _ _ _,b⟩
 refine Cn rfl (Bool.eq_false_iff.2 d) (Sn (Sr (W.ef rfl rfl rfl (Ef.oH underlying112 Hu fun k l u v e=>?_))))
 have f:=b.trans e
 have i:jO l w.heap.size 39 uN 1 (some ⟨k,0,none⟩) 0 0 []:=jO.nil _ _ _ _ _ _
 refine Wn 1 rfl (W.ef rfl rfl rfl (Ef.Ps underlying112 Hu underlying112 kU rfl i rfl (hO.le f) (by omega) (by unfold maxLen;omega) (by have:=e.size;omega) ?_))
 intro m o x s t y
 refine Wn 1 rfl (Nx (Rt (E.jI rfl rfl ?_)))
 exact⟨m,o,by rw[Nat.zero_add],(by simpa using(s.mono b.size)),(f.kI t (fun q hq=>Nat.le_trans b.size (i.row hq).1))⟩

theorem Cz {A B:Option Addr}{n m c d:Nat}{xs ys:List (BitVec 8)}(w:World)(hV:Vec w kL 1 A n xs)(hU:Vec w kL 1 B m ys)(hn:n<=100000):Calls prog 120 #[.slice A n c,.slice B m d] w fun r w'=>∃b:Bool,r= .returned (.bool b)/\Le w w':=by
 have hl:=hV.1
 have x:=hU.1
 refine enter func120 rfl rfl ?_
 have i:=Le.refl w
 refine Sr (Wn 1 rfl (Nx (Sq (Sr (Wn 1 rfl (Wr (.len underlying122 rfl) rfl (Wn 1 rfl (Wr (.len underlying122 rfl) rfl (Wn 1 rfl (Nx ?_))))))))))
 by_cases j:((n:Nat):Int)≠((m:Nat):Int)
 ·refine Cy rfl (dT j) (Sr (Wn 1 rfl (Nx (Rt (E.jH (E.jI rfl rfl ?_))))))
  exact⟨_,rfl,i⟩
 refine Cn rfl (dF j) (Sn (Sq (Sr (Wn 1 rfl (Wr (.len underlying122 rfl) rfl (Wn 1 rfl (Nx (WC.block (WC.loop (ι:=Nat) (fun k=>[(0,.slice A n c),(1,.slice B m d),(12,.int .i64 ((n:Nat):Int)),(13,.int .i64 ((k:Nat):Int))]) (fun k f=>(k<=n)/\Le w f/\w.heap.size<=f.heap.size) (fun k=>n-k) 0 ?_ ?_ ?_)))))))))
 ·exact .of rfl
 ·exact⟨Nat.zero_le _,i,Nat.le_refl _⟩
 rintro k f ⟨hk,l,u⟩
 refine Sr (Wn 1 rfl (Nx (Sq ?_)))
 by_cases o:((k:Nat):Int)<((n:Nat):Int)
 ·refine Cy rfl (dT o) (Sn (Sq (WC.block (Sr (Wn 2 rfl (Nx (Sq (WC.draw [0,1,2,3,4,5,6,7,8] mixed (by kernel_rfl) fun y s=>?_))))))))
  have e:=l.trans s
  refine Gn 2 rfl (Ga rfl (.lL k underlying122 vJ rfl rfl (hV.isSome kY (by omega)) rfl (by omega)) (Gd rfl (.pg (v:=lD (xs.getD k (0:BitVec 8))) IB rfl (hV.le e) kY (lF xs (0:BitVec 8) (by first|omega|(simp only[List.length_cons,List.length_nil];omega))) rfl) ?_))
  refine Gn 2 rfl (Ga rfl (.lL k underlying122 vJ rfl rfl (hU.isSome kY (by omega)) rfl (by omega)) (Gd rfl (.pg (v:=lD (ys.getD k (0:BitVec 8))) IB rfl (hU.le e) kY (lF ys (0:BitVec 8) (by first|omega|(simp only[List.length_cons,List.length_nil];omega))) rfl) ?_))
  refine Gn 1 rfl (G.nil (E.jG ?_))
  by_cases t:((xs.getD k (0:BitVec 8)).toNat:Int)≠((ys.getD k (0:BitVec 8)).toNat:Int)
  ·refine Cy rfl (dT t) (Sr (Wn 1 rfl (Nx (Rt (E.j4 (E.jH (E.jH (E.j4 (E.jH (E.jI rfl rfl ?_))))))))))
   exact⟨_,rfl,e⟩
  refine Cn rfl (dF t) (WC.skip (E.jZ (E.jG (WC.region (Wa (.add rfl rfl (by omega)) rfl (Wn 1 rfl (W.nil (E.again (k+1) (.of rfl) ?_ ?_))))))))
  ·exact⟨by omega,e,by have:=u;have:=s.size;omega⟩
  first|omega|(simp only[];omega)
 refine Cn rfl (dF o) (WC.exit (E.jJ (E.jJ (E.ko (E.jG (Sr (Wn 1 rfl (Nx (Rt (E.jI rfl rfl ?_))))))))))
 exact⟨_,rfl,l⟩

theorem Fb {g:Nat}{A:Option Addr}{n c:Nat}{no:Bool}(w:World)(hb:jL w g 198 #[.slice A n c,.bool no]):Calls prog 118 #[.pointer (some ⟨g,0,none⟩)] w fun r w'=>r= .returned (.tuple #[])/\jL w' g 198 #[.slice none 0 0,.bool true]/\ll w w' (fun k=>k=g):=by
 refine enter func118 rfl rfl ?_
 have j:=ll.refl w (fun k=>k=g)
 refine WC.region (Wn 2 rfl (Wa (.nilCheck rfl) rfl (Wa (.jE rT rfl) rfl (W.kP rfl rfl (Ef.store ze rfl rfl hb (by first|decide|(simp;done)) rfl ?_)))))
 intro e b l
 have b:jL e g 198 #[.slice none 0 0,.bool (no)]:=b
 have m:ll w e (fun k=>k=g):=j.ch l (fun i hi _=>by cases hi;exact rfl)
 refine Wa (.nilCheck rfl) rfl (Wa (.jE DC rfl) rfl (W.kP rfl rfl (Ef.store sz4 rfl rfl b (by first|decide|(simp;done)) rfl ?_)))
 intro f d o
 have d:jL f g 198 #[.slice none 0 0,.bool true]:=d
 have s:ll w f (fun k=>k=g):=m.ch o (fun i hi _=>by cases hi;exact rfl)
 refine W.nil (E.end_ (E.Vh rfl ?_))
 exact⟨rfl,d,s⟩

theorem Ox {ga gb k:Nat}{g:Nat}{A:Option Addr}{n c:Nat}{xs:List (BitVec 8)}{no:Bool}(w:World)(ha:jL w ga 3 #[.int .i64 ((k:Nat):Int)])(hB:jL w gb 170 #[.pointer (some ⟨g,0,none⟩)])(hb:jL w g 198 #[.slice A n c,.bool no])(hV:Vec w kL 1 A n xs)(hn:n<=100000)(hk:k<=100000):Calls prog 117 #[.pointer (some ⟨ga,0,none⟩),.pointer (some ⟨gb,0,none⟩)] w fun r w'=>r= .returned (.bool (uI xs n k))/\Le w w':=by
 have hl:=hV.1
 refine enter func117 rfl rfl (WC.sr (W.run 1 rfl (W.nx (WC.seq (WC.draw [0,1,2,3,4,5,6,7,8,9,10,11,12,13,14,15,16,17,18,19,20,21,22,23,24,25] mixed (by kernel_rfl) fun j i=>?_)))))
 have b:=(Le.refl w).trans i
 refine Gd rfl (.jF (v:= .int .i64 ((k:Nat):Int)) j5 rfl (ha.le b) rfl) (Gd rfl (.jF (v:= .pointer (some ⟨g,0,none⟩)) si rfl (hB.le b) rfl) (Ga rfl (.nilCheck rfl) (Ga rfl (.jE rT rfl) (Gd rfl (.jF (v:= .slice A n c) wh rfl (hb.le b) rfl) (Gd rfl (.len underlying122 rfl) ?_)))))
 refine G.run 1 rfl ?_
 by_cases d:((n:Nat):Int)<=((k:Nat):Int)
 ·refine Ga rfl (.dec (.move rfl) (decide_eq_true d)) (G.run 7 rfl (G.mU rfl rfl rfl rfl rfl rfl (G.mU rfl rfl rfl rfl rfl rfl (G.mU rfl rfl rfl rfl rfl rfl (G.mU rfl rfl rfl rfl rfl rfl ?_)))))
  refine G.mU rfl rfl rfl rfl rfl rfl (G.mU rfl rfl rfl rfl rfl rfl (G.mU rfl rfl rfl rfl rfl rfl (G.mU rfl rfl rfl rfl rfl rfl (G.run 3 rfl (G.nil (E.jG (WC.ret (E.jI rfl rfl ?_))))))))
  exact⟨rB (by unfold uI;rw[Bool.eq_iff_iff];simp only[Bool.or_eq_true,Bool.and_eq_true,decide_eq_true_eq,Bool.false_eq_true,false_iff,true_iff];omega),b⟩
 refine Ga rfl (.dec (.move rfl) (decide_eq_false d)) (uw rfl (.jF (v:= .int .i64 ((k:Nat):Int)) j5 rfl (ha.le b) rfl) (G.run 2 rfl ?_))
 by_cases e:8<((k:Nat):Int)
 ·refine Ga rfl (.dec (.move rfl) (decide_eq_true e)) (G.run 3 rfl (G.mU rfl rfl rfl rfl rfl rfl (G.mU rfl rfl rfl rfl rfl rfl (G.mU rfl rfl rfl rfl rfl rfl (G.mU rfl rfl rfl rfl rfl rfl ?_)))))
  refine G.mU rfl rfl rfl rfl rfl rfl (G.mU rfl rfl rfl rfl rfl rfl (G.mU rfl rfl rfl rfl rfl rfl (G.mU rfl rfl rfl rfl rfl rfl (G.run 3 rfl (G.nil (E.jG (WC.ret (E.jI rfl rfl ?_))))))))
  exact⟨rB (by unfold uI;rw[Bool.eq_iff_iff];simp only[Bool.or_eq_true,Bool.and_eq_true,decide_eq_true_eq,Bool.false_eq_true,false_iff,true_iff];omega),b⟩
 refine Ga rfl (.dec (.move rfl) (decide_eq_false e)) (uw rfl (.jF (v:= .int .i64 ((k:Nat):Int)) j5 rfl (ha.le b) rfl) (G.run 1 rfl ?_))
 by_cases f:0<((k:Nat):Int)
 ·refine oJ rfl (.dec (.move rfl) (decide_eq_true f)) (uw rfl (.jF (v:= .pointer (some ⟨g,0,none⟩)) si rfl (hB.le b) rfl) (oJ rfl (.nilCheck rfl) (oJ rfl (.jE rT rfl) (uw rfl (.jF (v:= .slice A n c) wh rfl (hb.le b) rfl) (uw rfl (.jF (v:= .int .i64 ((k:Nat):Int)) j5 rfl (ha.le b) rfl) ?_)))))
  refine oJ rfl (.lL k underlying122 vJ rfl rfl (hV.isSome kY (by omega)) rfl (by omega)) (uw rfl (.pg (v:=lD (xs.getD k (0:BitVec 8))) IB rfl (hV.le b) kY (lF xs (0:BitVec 8) (by first|omega|(simp only[List.length_cons,List.length_nil];omega))) rfl) ?_)
  refine G.run 1 rfl (oJ rfl (.I5 rfl rfl rfl) (G.run 2 rfl (G.nil (E.jG (WC.ret (E.jI rfl rfl ?_))))))
  exact⟨rB (by unfold uI;rw[Bool.eq_iff_iff];simp only[Bool.or_eq_true,Bool.and_eq_true,decide_eq_true_eq];omega),b⟩
 refine oJ rfl (.dec (.move rfl) (decide_eq_false f)) (G.run 8 rfl (oJ rfl (.I6 rfl rfl rfl) (G.run 2 rfl (G.nil (E.jG (WC.ret (E.jI rfl rfl ?_)))))))
 exact⟨rB (by unfold uI;rw[Bool.eq_iff_iff];simp only[Bool.or_eq_true,Bool.and_eq_true,decide_eq_true_eq,Bool.false_eq_true,false_iff,true_iff];omega),b⟩

theorem MG {g:Nat}{A:Option Addr}{n c:Nat}{xs:List (BitVec 8)}{no:Bool}(w:World)(hb:jL w g 198 #[.slice A n c,.bool no])(hV:Vec w kL 1 A n xs)(hc:n<=c)(hn:n<=100000)(hne:0<n->lU A≠some g):Calls prog 78 #[.pointer (some ⟨g,0,none⟩)] w fun r w'=>∃v A' n' c' xs' no',r= .returned (.int .i64 ((v:Nat):Int))/\jL w' g 198 #[.slice A' n' c',.bool no']/\RdN A n xs no v A' n' c' xs' no'/\ll w w' (fun k=>k=g):=by
 have hl:=hV.1
 have hnq:∀q,lU A=some q->0<n->q<w.heap.size->¬(fun k=>k=g) q:=fun q Y Z _ he=>hne Z (by rw[Y];exact congrArg some he)
 refine enter func78 rfl rfl (Sr (W.ef rfl rfl rfl (Ef.box rfl fun m aa ao (o:jL aa m 170 #[.pointer (some ⟨g,0,none⟩)]) j=>?_)))
 have x:=(ll.refl w (fun k=>k=g)).le j
 refine Wn 1 rfl (Nx (WC.scope (Sr (W.ef rfl rfl rfl (Ef.alloc z3 fun e ab L (ac:jL ab e 3 #[.int .i64 (0)]) y=>?_)))))
 have L2:=x.le y
 refine Wn 1 rfl (W.kP rfl rfl (Ef.store kz rfl rfl ac (by first|decide|(simp;done)) rfl ?_))
 intro z B C
 have B:jL z e 3 #[.int .i64 (0)]:=B
 have L3:ll w z (fun k=>k=g):=L2.ch C (fun i hi hlt=>by cases hi;exact absurd hlt (by have:=x.size;have:=L;omega))
 refine Nx (Sr (Wa (.makeFunc rfl) rfl (Wn 1 rfl (Nx (Sq (WC.label (E.jG (Sq (WC.block ?_)))))))))
 refine WC.loop (ι:=Nat×Nat) (fun⟨k,v⟩=>[(1,.pointer (some ⟨m,0,none⟩)),(3,.int .i64 ((v:Nat):Int)),(4,.pointer (some ⟨e,0,none⟩)),(5,.func (.func 117) #[] #[.pointer (some ⟨e,0,none⟩),.pointer (some ⟨m,0,none⟩)])]) (fun⟨k,v⟩ b=>(k<=n)/\(v<9223372036854775808)/\(k=0->v=0)/\(0<k->128<=(xs.getD 0 0).toNat)/\ll w b (fun k=>k=g)/\z.heap.size<=b.heap.size/\jL b m 170 #[.pointer (some ⟨g,0,none⟩)]/\jL b e 3 #[.int .i64 ((k:Nat):Int)]/\jL b g 198 #[.slice A n c,.bool (no)]) (fun⟨k,v⟩=>n-k) (0,0) ?_ ?_ ?_
 ·exact .of rfl
 ·exact⟨Nat.zero_le _,by decide,fun _=>rfl,fun h=>absurd h (by decide),L3,Nat.le_refl _,((o.le y).cn C (by have:=o.lt;omega)),B,((hb.le (j.trans y)).cn C (by have:=hb.lt;have:=j.size;omega))⟩
 rintro⟨k,v⟩ b ⟨hk,hv,hz,hf,N,ad,D,O,F⟩
 refine WC.block (Sq (Sr (Wn 1 rfl (W.ef rfl rfl rfl (Ef.D9 YB rfl rfl rfl (Ox b O D F (hV.kX N hnq) (by omega) (by omega)) ?_)))))
 rintro _ ae ⟨rfl,d⟩
 refine⟨_,rfl,?_⟩
 have P:=N.le d
 refine Nx ?_
 by_cases H:(uI xs n k)=true
 ·refine Cy rfl H (Sr (Wr (.jF (v:= .pointer (some ⟨g,0,none⟩)) si rfl (D.le d) rfl) rfl (W.cl Qi rfl rfl (Fb ae (F.le d)) ?_)))
  rintro _ ap ⟨rfl,af,ah⟩
  have L9:=P.sub ah (fun i hi hlt=>(by subst hi;exact rfl))
  refine Nx (Sr (Wn 1 rfl (Nx (Rt (E.jH (E.j4 (E.jH (E.j4 (E.jH (E.Pn (E.jI rfl rfl ?_)))))))))))
  exact⟨0,_,_,_,_,_,rfl,af,Q5 hl hf (by assumption),L9⟩
 refine Cn rfl (Bool.eq_false_iff.2 H) ?_
 have aq:k<=8/\k<n:=by have hw:=H;unfold uI at hw;simp only[Bool.or_eq_true,Bool.and_eq_true,decide_eq_true_eq,not_or]at hw;omega
 refine Sn (Sq (WC.draw [0,1,2,3,4,5,6,7] mixed (by kernel_rfl) fun w6 l=>?_))
 have Q:=P.le l
 have I:=(D.le (d.trans l))
 refine Gd rfl (.jF (v:= .pointer (some ⟨g,0,none⟩)) si rfl I rfl) (Ga rfl (.nilCheck rfl) (Ga rfl (.jE rT rfl) ?_))
 have J:=(F.le (d.trans l))
 refine Gd rfl (.jF (v:= .slice A n c) wh rfl J rfl) ?_
 have s:=(O.le (d.trans l))
 refine Gd rfl (.jF (v:= .int .i64 ((k:Nat):Int)) j5 rfl s rfl) (Ga rfl (.lL k underlying122 vJ rfl rfl (hV.isSome kY (by omega)) rfl (by omega)) (Gd rfl (.pg (v:=lD (xs.getD k (0:BitVec 8))) IB rfl (hV.kX Q hnq) kY (lF xs (0:BitVec 8) (by first|omega|(simp only[List.length_cons,List.length_nil];omega))) rfl) ?_))
 refine Gn 1 rfl (G.nil (E.jG (Sr (Wn 2 rfl (Wa (.V7 rfl rfl (by omega)) rfl (Wr (.Su (y5 underlying5) underlying3 rfl (IntWalk.i64_in _ (by omega))) rfl (Wr (.jF (v:= .int .i64 ((k:Nat):Int)) j5 rfl s rfl) rfl (Wa (.mul rfl rfl (by omega)) rfl (Wa (.abu ((xs.getD k 0).toNat%128) (7*k) _ rfl (by omega) rfl (by omega) (by omega) rfl (Io (Nat.mod_lt _ (by decide)) (by omega))) rfl ?_)))))))))
 refine Wa (.orI v ((xs.getD k 0).toNat%128*2^(7*k)) rfl rfl rfl rfl hv (Io (Nat.mod_lt _ (by decide)) (by omega))) rfl (Wn 1 rfl (Nx (Sr (Wr (.jF (v:= .int .i64 ((k:Nat):Int)) j5 rfl s rfl) rfl (Wa (.add rfl rfl (by omega)) rfl (W.kP rfl rfl (Ef.store kz rfl rfl s (by first|decide|(simp;done)) rfl ?_)))))))
 intro R t f
 have t:jL R e 3 #[.int .i64 (((k:Nat):Int)+1)]:=t
 have S:ll w R (fun k=>k=g):=Q.ch f (fun i hi hlt=>by cases hi;exact absurd hlt (by have:=x.size;have:=L;omega))
 refine Nx (Sr (Wn 2 rfl (Nx ?_)))
 by_cases T:((xs.getD k (0:BitVec 8)).toNat:Int)<128
 ·refine Cy rfl (dT T) (WC.exit (E.Kl rfl (E.jJ (E.ko (E.jG (Sq (WC.draw [0,1,2,3,4,5,6,7,8,9] mixed (by kernel_rfl) fun ar u=>?_)))))))
  have ai:=S.le u
  have U:=((I.cn f (by have:=o.lt;omega)).le u)
  refine Gd rfl (.jF (v:= .pointer (some ⟨g,0,none⟩)) si rfl U rfl) (Gd rfl (.jF (v:= .pointer (some ⟨g,0,none⟩)) si rfl U rfl) (Ga rfl (.nilCheck rfl) (Ga rfl (.jE rT rfl) ?_)))
  have V:=((J.cn f (by have:=hb.lt;have:=j.size;omega)).le u)
  refine Gd rfl (.jF (v:= .slice A n c) wh rfl V rfl) (Gd rfl (.jF (v:= .int .i64 (((k:Nat):Int)+1)) j5 rfl (t.le u) rfl) ?_)
  have aj:=hV.sI c (k+1) (by omega) (by omega) kY
  have au:=aj.1
  refine Ga rfl (.sI (k+1) underlying122 vJ rfl rfl (by omega) (by omega) (by omega)) (Ga rfl (.nilCheck rfl) (Ga rfl (.jE rT rfl) (G.kP rfl rfl rfl rfl (Ef.store ze rfl rfl V (by first|decide|(simp;done)) rfl ?_))))
  intro X K ak
  refine noT (by kernel_rfl) ?_
  have K:jL X g 198 #[.slice (uq A c (k+1) 1) (n-(k+1)) (c-(k+1)),.bool (no)]:=K
  have al:ll w X (fun k=>k=g):=ai.ch ak (fun i hi _=>by cases hi;exact rfl)
  refine G.nil (E.jG (Sr (Wn 2 rfl (Nx (Rt (E.Pn (E.jI rfl rfl ?_)))))))
  exact⟨_,_,_,_,_,_,rfl,K,V9 hl hc hv hz hf (by assumption) (by omega),al⟩
 refine Cn rfl (dF T) (WC.skip (E.jZ ?_))
 have am:=(I.cn f (by have:=o.lt;omega))
 have an:=(J.cn f (by have:=hb.lt;have:=j.size;omega))
 refine E.again (k+1,(v|||(xs.getD k 0).toNat%128*2^(7*k))) (.of rfl) ?_ ?_
 ·exact⟨by omega,U5 hv (Io (Nat.mod_lt _ (by decide)) (by omega)),fun h=>by omega,fun _=>by rcases Nat.eq_zero_or_pos k with h|h;subst h;omega;exact hf h,S,by have:=ad;have:=d.size;have:=l.size;have:=f.size;omega,am,t,an⟩
 first|omega|(simp only[];omega)
end Go.Proofs.YtcaehidaejhdfaaGreat

namespace Go.Proofs.YtcaehidaejhdfaaGreat
open Tryz
open Go Go.Sx Go.wI Go.Num Go.Ac Go.rZ Go.Lsp Go.Fv Go.Dk
set_option maxRecDepth 20000
theorem Fe (m:Nat){g:Nat}{A:Option Addr}{n c:Nat}{xs:List (BitVec 8)}{no:Bool}(w:World)(hb:jL w g 198 #[.slice A n c,.bool no])(hV:Vec w kL 1 A n xs)(hc:n<=c)(hn:n<=100000)(hne:0<n->lU A≠some g)(hm:m<=9223372036854775807):Calls prog 119 #[.pointer (some ⟨g,0,none⟩),.int .i64 ((m:Nat):Int)] w fun r w'=>∃A1 c1 ys A' n' c' xs' no',r= .returned (.slice A1 ys.length c1)/\jO w' w.heap.size 5 kL 1 A1 ys.length c1 ys/\jL w' g 198 #[.slice A' n' c',.bool no']/\RdT A n xs no m ys A' n' c' xs' no'/\ll w w' (fun k=>k=g):=by
 have hl:=hV.1
 have hnq:∀q,lU A=some q->0<n->q<w.heap.size->¬(fun k=>k=g) q:=fun q e d _ he=>hne d (by rw[e];exact congrArg some he)
 refine enter func119 rfl rfl ?_
 have b:=ll.refl w (fun k=>k=g)
 refine Sr (Wn 1 rfl (Nx (Sq (Sr (Wn 1 rfl (Wa (.nilCheck rfl) rfl (Wa (.jE DC rfl) rfl (Wr (.jF (v:= .bool no) na4 rfl hb rfl) rfl ?_))))))))
 by_cases l:no=true
 ·refine Wa (.dec (.move rfl) l) rfl (Wn 8 rfl (Nx (WC.jS rfl (Sr (Wn 1 rfl (W.cl Qi rfl rfl (Fb w hb) ?_))))))
  rintro _ O ⟨rfl,B,C⟩
  have D:=b.sub C (fun i hi hlt=>(by subst hi;exact rfl))
  refine Nx (Sr (Wn 1 rfl (Nx (Rt (E.jH (E.jI rfl rfl ?_))))))
  exact⟨none,0,[],_,_,_,_,_,rfl,jO.nil _ _ _ _ _ _,B,⟨Nat.zero_le _,Nat.zero_le _,Fa,fun d f=>by first|omega|(simp_all;done)⟩,D⟩
 refine Wa (.dec (.move rfl) (Bool.eq_false_iff.2 l)) rfl (Wn 2 rfl (Wg (Any.rd (.nilCheck rfl) _) rfl (Wg (Any.rd (.jE rT rfl) _) rfl (Wg (.jF (v:= .slice A n c) wh rfl hb rfl) rfl (Wg (.len underlying122 rfl) rfl ?_)))))
 refine Wn 2 rfl (Nx ?_)
 by_cases o:((n:Nat):Int)<((m:Nat):Int)
 ·refine Cy rfl (dT o) (Sr (Wn 1 rfl (W.cl Qi rfl rfl (Fb w hb) ?_)))
  rintro _ P ⟨rfl,F,H⟩
  have I:=b.sub H (fun i hi hlt=>(by subst hi;exact rfl))
  refine Nx (Sr (Wn 1 rfl (Nx (Rt (E.jH (E.jI rfl rfl ?_))))))
  exact⟨none,0,[],_,_,_,_,_,rfl,jO.nil _ _ _ _ _ _,F,⟨Nat.zero_le _,Nat.zero_le _,Fa,fun d f=>by first|omega|(simp_all;done)⟩,I⟩
 refine Cn rfl (dF o) (Sn (Sr (Wn 1 rfl (Wa (.nilCheck rfl) rfl (Wa (.jE rT rfl) rfl (Wr (.jF (v:= .slice A n c) wh rfl hb rfl) rfl (Wn 1 rfl ?_)))))))
 have s:=hV.Fz m (by omega) kY
 have Q:=s.1
 refine Wa (.Fz m underlying122 vJ rfl rfl rfl (by omega)) rfl (W.cl Qh rfl rfl (GG w (s.kX b (fun q e d f=>hnq q e (by omega) f)) (by omega)) ?_)
 rintro _ R ⟨S,T,rfl,t,u⟩
 have J:=b.le u
 refine Wn 1 rfl (Nx (Sr (Wn 2 rfl (Wa (.nilCheck rfl) rfl (Wa (.jE rT rfl) rfl ?_)))))
 have x:=(hb.le u)
 refine Wr (.jF (v:= .slice A n c) wh rfl x rfl) rfl (Wn 1 rfl ?_)
 have K:=hV.sI c m (by omega) (by omega) kY
 have U:=K.1
 refine Wa (.sI m underlying122 vJ rfl rfl rfl (by omega) (by omega)) rfl (Wa (.nilCheck rfl) rfl (Wa (.jE rT rfl) rfl (W.kP rfl rfl (Ef.store ze rfl rfl x (by first|decide|(simp;done)) rfl ?_))))
 intro y j z
 have j:jL y g 198 #[.slice (uq A c m 1) (n-m) (c-m),.bool (no)]:=j
 have L:ll w y (fun k=>k=g):=J.ch z (fun i hi _=>by cases hi;exact rfl)
 refine Nx (Sr (Wn 2 rfl (Nx (Rt ?_))))
 have N:=(t.cb z (t.rl (by have:=hb.lt;omega)))
 refine E.jI rfl rfl ?_
 have htl:(xs.take m).length=m:=(by rw[List.length_take];omega)
 exact⟨_,_,xs.take m,_,_,_,_,_,by rw[htl],(N.mono b.size).cast htl.symm rfl,j,⟨by omega,by omega,MF hc (by omega),fun h _=>⟨rfl,h,rfl⟩⟩,L⟩

theorem Oy {g:Nat}{A:Option Addr}{n c:Nat}{xs:List (BitVec 8)}{no:Bool}(w:World)(hb:jL w g 198 #[.slice A n c,.bool no])(hV:Vec w kL 1 A n xs)(hc:n<=c)(hn:n<=100000)(hne:0<n->lU A≠some g):Calls prog 81 #[.pointer (some ⟨g,0,none⟩)] w fun r w'=>∃A1 c1 ys A' n' c' xs' no',r= .returned (.slice A1 ys.length c1)/\jO w' w.heap.size 5 kL 1 A1 ys.length c1 ys/\ys.length<=n/\jL w' g 198 #[.slice A' n' c',.bool no']/\JS A n xs no A' n' c' xs' no'/\ll w w' (fun k=>k=g):=by
 have hl:=hV.1
 have hnq:∀q,lU A=some q->0<n->q<w.heap.size->¬(fun k=>k=g) q:=fun q s t _ he=>hne t (by rw[s];exact congrArg some he)
 refine enter func81 rfl rfl ?_
 have l:=ll.refl w (fun k=>k=g)
 refine Sr (Wn 1 rfl (Nx (Sr (Wn 1 rfl (W.cl FJ rfl rfl (MG w hb (hV.kX l hnq) (by omega) (by omega) hne) ?_)))))
 rintro _ u ⟨x,F,H,I,J,m,rfl,j,d,y⟩
 have f:=l.sub y (fun i hi hlt=>(by subst hi;exact rfl))
 have K:=d.Ze;have L:=d.b.cap;have N:=d.b.len
 refine Wn 1 rfl (Nx (Sq (Sr (Wn 1 rfl (Wa (.nilCheck rfl) rfl (Wa (.jE DC rfl) rfl (Wr (.jF (v:= .bool m) na4 rfl j rfl) rfl (Nx ?_))))))))
 by_cases o:m=true
 ·refine Cy rfl o (Sr (Wn 1 rfl (Nx (Rt (E.jH (E.jI rfl rfl ?_))))))
  exact⟨none,0,[],_,_,_,_,_,rfl,jO.nil _ _ _ _ _ _,Nat.zero_le _,j,d.b,f⟩
 refine Cn rfl (Bool.eq_false_iff.2 o) (Sn (Sr (Wn 2 rfl (W.cl Qj rfl rfl (Fe x u j ((d.b.sub w hV).kX f (d.b.nq hnq)) (by omega) (by omega) (d.b.ne hne) (by omega)) ?_))))
 rintro _ O ⟨P,Q,R,S,T,U,V,X,rfl,z,B,e,C⟩
 have D:=f.sub C (fun i hi hlt=>(by subst hi;exact rfl))
 have Y:=e.b.cap;have Z:=e.b.len;have aa:=e.yl;have ab:=e.ym
 refine Wn 1 rfl (Nx (Rt (E.jI rfl rfl ?_)))
 exact⟨_,_,_,_,_,_,_,_,rfl,(z.mono f.size),by omega,B,d.b.trans e.b,D⟩

theorem Uc {g:Nat}{A:Option Addr}{n c:Nat}{xs:List (BitVec 8)}{no:Bool}(w:World)(hb:jL w g 198 #[.slice A n c,.bool no])(hV:Vec w kL 1 A n xs)(hc:n<=c)(hn:n<=100000)(hne:0<n->lU A≠some g):Calls prog 82 #[.pointer (some ⟨g,0,none⟩)] w fun r w'=>∃v A' n' c' xs' no',v<18446744073709551616/\r= .returned (.int .u64 ((v:Nat):Int))/\jL w' g 198 #[.slice A' n' c',.bool no']/\JS A n xs no A' n' c' xs' no'/\ll w w' (fun k=>k=g):=by
 have hl:=hV.1
 have hnq:∀q,lU A=some q->0<n->q<w.heap.size->¬(fun k=>k=g) q:=fun q z B _ he=>hne B (by rw[z];exact congrArg some he)
 refine enter func82 rfl rfl ?_
 have j:=ll.refl w (fun k=>k=g)
 refine Sr (Wn 1 rfl (Nx (Sr (Wn 1 rfl (Nx (Sq (Sr (Wn 1 rfl (W.cl Qj rfl rfl (Fe 8 w hb (hV.kX j hnq) (by omega) (by omega) hne (by omega)) ?_)))))))))
 rintro _ C ⟨l,m,d,D,F,H,N,I,rfl,o,J,f,s⟩
 have K:=j.sub s (fun i hi hlt=>(by subst hi;exact rfl))
 have O:=f.b.cap;have P:=f.b.len;have Q:=f.yl;have R:=f.ym
 refine Wr (.len underlying122 rfl) rfl (Wn 1 rfl (Nx (WC.block (WC.loop (ι:=Nat×Nat) (fun⟨k,v⟩=>[(3,.int .u64 ((v:Nat):Int)),(7,.slice l d.length m),(8,.int .i64 ((d.length:Nat):Int)),(9,.int .i64 ((k:Nat):Int))]) (fun⟨k,v⟩ e=>(k<=d.length)/\(v<18446744073709551616)/\ll w e (fun k=>k=g)/\C.heap.size<=e.heap.size/\jO e w.heap.size 5 kL 1 l d.length m d/\jL e g 198 #[.slice D F H,.bool (I)]) (fun⟨k,v⟩=>d.length-k) (0,0) ?_ ?_ ?_))))
 ·exact .of rfl
 ·exact⟨Nat.zero_le _,by decide,K,Nat.le_refl _,o,J⟩
 rintro⟨k,v⟩ e ⟨hk,hv,t,L,u,x⟩
 have S:w.heap.size<=e.heap.size:=by have:=s.size;omega
 refine Sr (Wn 1 rfl (Nx (Sq ?_)))
 by_cases y:((k:Nat):Int)<((d.length:Nat):Int)
 ·refine Cy rfl (dT y) (Sn (Sq (WC.block (Sr (Wa (.lL k underlying122 vJ rfl rfl (o.vec.isSome kY (by omega)) rfl (by omega)) rfl (Wr (.pg (v:=lD (d.getD k (0:BitVec 8))) IB rfl u.vec kY (lF d (0:BitVec 8) (by first|omega|(simp only[List.length_cons,List.length_nil];omega))) rfl) rfl ?_))))))
  refine Wn 1 rfl (Nx (WC.region (Wn 1 rfl (Wa (.SB v 8 _ rfl rfl rfl rfl (by decide) rfl) rfl (Wn 1 rfl (Wr (.Su (y5 underlying5) underlying38 rfl (IntWalk.u64_in _ (by omega))) rfl (Wa (.orN (v*2^8%18446744073709551616) (d.getD k 0).toNat rfl rfl rfl rfl (by omega) (by omega)) rfl (Wn 1 rfl (W.nil (E.jZ (E.jG (WC.region ?_))))))))))))
  refine Wa (.add rfl rfl (by omega)) rfl (Wn 1 rfl (W.nil (E.again (k+1,(v*2^8%18446744073709551616|||(d.getD k 0).toNat)) (.of rfl) ?_ ?_)))
  ·exact⟨by omega,Nat.or_lt_two_pow (n:=64) (by omega) (by omega),t,by have:=L;omega,u,x⟩
  first|omega|(simp only[];omega)
 refine Cn rfl (dF y) (WC.exit (E.jJ (E.jJ (E.ko (E.jG (Sr (Wn 2 rfl (Nx (Rt (E.jI rfl rfl ?_))))))))))
 exact⟨v,_,_,_,_,_,hv,rfl,x,f.b,t⟩

theorem Zh {ys:List (BitVec 8)}(h:ys.length<=32):(ys++List.replicate (32-ys.length) 0#8).length=32:=by rw[List.length_append,List.length_replicate];omega
theorem Zi {N:Nat}{ys:List (BitVec 8)}(h:ys.length<=N):((((List.replicate N 0#8).map lD).toArray.toList.take 0++(ys.map kL).flatten++((List.replicate N 0#8).map lD).toArray.toList.drop (0+(ys.map kL).flatten.length)).toArray)=((ys++List.replicate (N-ys.length) 0#8).map lD).toArray:=by
  rw[vU]
  simp[List.drop_replicate]
theorem Wd {ys:List (BitVec 8)}(h:ys.length<=32):((((List.replicate 32 0#8).map lD).toArray.toList.take 0++(ys.map kL).flatten++((List.replicate 32 0#8).map lD).toArray.toList.drop (0+(ys.map kL).flatten.length)).toArray)=((ys++List.replicate (32-ys.length) 0#8).map lD).toArray:=Zi h

theorem Q6 {g:Nat}{A:Option Addr}{n c:Nat}{xs:List (BitVec 8)}{no:Bool}(w:World)(hb:jL w g 198 #[.slice A n c,.bool no])(hV:Vec w kL 1 A n xs)(hc:n<=c)(hn:n<=100000)(hne:0<n->lU A≠some g):Calls prog 79 #[.pointer (some ⟨g,0,none⟩)] w fun r w'=>∃(m:List (BitVec 8)) (A':Option Addr) (n' c':Nat) (xs':List (BitVec 8)) (no':Bool),m.length=32/\r= .returned (.agg (m.map lD).toArray)/\jL w' g 198 #[.slice A' n' c',.bool no']/\(∃ys,RdT A n xs no 32 ys A' n' c' xs' no')/\ll w w' (fun k=>k=g):=by
 have hl:=hV.1
 have hnq:∀q,lU A=some q->0<n->q<w.heap.size->¬(fun k=>k=g) q:=fun q L N _ he=>hne N (by rw[L];exact congrArg some he)
 refine enter func79 rfl rfl ?_
 have B:=ll.refl w (fun k=>k=g)
 refine Sr (W.ef rfl rfl rfl (Ef.jR z23 fun t O P (C:jL O t 23 ((List.replicate 32 0#8).map lD).toArray) j=>?_))
 have D:=B.le j
 refine Nx (Sr (W.ef rfl rfl rfl (Ef.jR z23 fun u Q R (S:jL Q u 23 ((List.replicate 32 0#8).map lD).toArray) v=>(Nx (Sq (WC.draw [0,1,2,3] mixed (by kernel_rfl) fun T l=>?_))))))
 have F:=(D.le v).le l
 refine Ga rfl (.Km underlying23 vJ rfl) (Gn 1 rfl (G.ef rfl rfl rfl rfl rfl (Ef.call Qj rfl rfl (Fe 32 T (hb.le (j.trans (v.trans l))) (hV.kX F hnq) (by omega) (by omega) hne (by omega)) ?_)))
 rintro _ aa ⟨ab,ac,d,ad,ae,af,ah,ai,rfl,U,V,e,x⟩
 refine⟨_,rfl,?_⟩
 refine noT (by kernel_rfl) ?_
 have X:=F.sub x (fun i hi hlt=>(by subst hi;exact rfl))
 have aj:=e.b.cap;have ak:=e.b.len;have al:=e.yl;have am:=e.ym
 have Y:=((S.le l).kX x (fun hF=>(show u≠g from by have:=hb.lt;have:=j.size;omega) hF))
 refine G.ef rfl rfl rfl rfl rfl (Ef.copy (o:=0) (dl:=32) (m:=d.length) underlying122 vJ rfl Y rfl ((U.vec).2.src underlying122 kY.pos _ (Jd kY _)) (by omega) (by rw[vU];simp;omega) ?_)
 intro H s y
 refine noT (by kernel_rfl) ?_
 have s:jL H u 23 ((d++List.replicate (32-d.length) 0#8).map lD).toArray:=s.cast (Wd (by omega))
 obtain⟨I,Z,f⟩:∃m,(d++List.replicate (32-d.length) 0#8)=m/\m.length=32:=⟨_,rfl,Zh (by omega)⟩
 rw[Z]at s
 have L7:ll w H (fun k=>k=g):=X.ch y (fun i hi hlt=>by cases hi;exact absurd hlt (by have:=D.size;have:=R;omega))
 refine G.nil (E.jG (Sr (Wr (.jK sV (by simp[f]) rfl s) rfl ?_)))
 have f8:=(((C.le (v.trans l)).kX x (fun hF=>(show t≠g from by have:=hb.lt;omega) hF)).cn y (by have:=C.lt;omega))
 refine W.kP rfl rfl (Ef.storeAll zx (by simp[f,List.length_replicate]) rfl rfl f8 (by simp[f,List.length_replicate]) (tL _) ?_)
 intro J z K
 have z:jL J t 23 (I.map lD).toArray:=z
 have L9:ll w J (fun k=>k=g):=L7.ch K (fun i hi hlt=>by cases hi;exact absurd hlt (by have:=B.size;have:=P;omega))
 refine Nx (Rt (E.jI rfl (lS rfl z sV (by simp[f])) ?_))
 exact⟨I,_,_,_,_,_,f,rfl,((V.cn y (by have:=hb.lt;have:=j.size;omega)).cn K (by have:=hb.lt;omega)),⟨_,e⟩,L9⟩

theorem Q7 {A:Option Addr}{n c:Nat}{xs:List (BitVec 8)}(w:World)(hV:Vec w kL 1 A n xs)(hn:n<=100000):Calls prog 76 #[.slice A n c] w fun r w'=>∃g A' c',r= .returned (.pointer (some ⟨g,0,none⟩))/\w.heap.size<=g/\jL w' g 198 #[.slice A' n c',.bool false]/\jO w' w.heap.size 5 kL 1 A' n c' xs/\Le w w':=by
 have hl:=hV.1
 refine enter func76 rfl rfl ?_
 have b:=Le.refl w
 refine Sr (Wn 1 rfl (Nx (Sr (Wn 1 rfl (W.cl Qh rfl rfl (GG w (hV.le b) (by omega)) ?_)))))
 rintro _ s ⟨d,e,rfl,j,f⟩
 refine Wa (.kK [.slice d n e,.bool false] Y8 z198 rfl rfl) rfl (W.ef rfl rfl rfl (Ef.mH rfl fun k l m (o:jL l k 198 #[.slice d n e,.bool false]) i=>(Wn 1 rfl (Nx (Rt (E.jI rfl rfl ?_))))))
 exact⟨_,_,_,rfl,by have:=b.size;have:=f.size;have:=m;omega,o,((j.le i).mono b.size),((b.trans f).trans i)⟩

theorem We {g:Nat}{A:Option Addr}{n c:Nat}{no:Bool}(w:World)(hb:jL w g 198 #[.slice A n c,.bool no]):Calls prog 83 #[.pointer (some ⟨g,0,none⟩)] w fun r w'=>r= .returned (.bool (!no))/\Le w w':=by
 refine enter func83 rfl rfl ?_
 have b:=Le.refl w
 refine Sr (Wn 1 rfl (Nx (Sr (Wn 1 rfl (Wa (.nilCheck rfl) rfl (Wa (.jE DC rfl) rfl (Wr (.jF (v:= .bool no) na4 rfl (hb.le b) rfl) rfl (Wn 2 rfl (Nx (Rt (E.jI rfl rfl ?_)))))))))))
 exact⟨rfl,b⟩

theorem Q8 {g:Nat}{A:Option Addr}{n c:Nat}{no:Bool}(w:World)(hb:jL w g 198 #[.slice A n c,.bool no]):Calls prog 84 #[.pointer (some ⟨g,0,none⟩)] w fun r w'=>r= .returned (.int .i64 ((n:Nat):Int))/\Le w w':=by
 refine enter func84 rfl rfl ?_
 have b:=Le.refl w
 refine Sr (Wn 1 rfl (Nx (Sr (Wn 1 rfl (Wa (.nilCheck rfl) rfl (Wa (.jE rT rfl) rfl (Wr (.jF (v:= .slice A n c) wh rfl (hb.le b) rfl) rfl (Wr (.len underlying122 rfl) rfl (Wn 1 rfl (Nx (Rt ?_)))))))))))
 refine E.jI rfl rfl ?_
 exact⟨rfl,b⟩
end Go.Proofs.YtcaehidaejhdfaaGreat

namespace Go.Proofs.YtcaehidaejhdfaaGreat
open Tryz
open Go Go.Sx Go.wI Go.Num Go.Ac Go.rZ Go.Lsp Go.Fv Go.Dk
set_option maxRecDepth 20000
theorem xz.nil (w:World)(b:Nat):xz w b [] []:=⟨rfl,fun i hi=>absurd hi (Nat.not_lt_zero _)⟩
theorem Ud {pr:Nat->Bool}{xs:List Nat}{k:Nat}(hk:k<xs.length)(hb:∀j,j<k->¬pr (xs.getD j 0)=true)(h:pr (xs.getD k 0)=true):K7 pr xs=(k:Int):=by
  have hx:xs.getD k 0=xs[k]:=by simp[List.getD,hk]
  have:xs.findIdx pr=k:=by
    rw[List.findIdx_eq hk]
    refine⟨by rw[<-hx];exact h,fun j hj=>?_⟩
    have:=hb j hj
    simp only[List.getD,List.getElem?_eq_getElem (show j<xs.length by omega),Option.getD_some]at this
    simpa using this
  rw[K7,if_pos (by rw[List.any_eq_true];exact⟨xs[k],List.getElem_mem hk,by rw[<-hx];exact h⟩),this]
theorem Ue {pr:Nat->Bool}{xs:List Nat}{k:Nat}(hk:xs.length<=k)(hb:∀j,j<k->¬pr (xs.getD j 0)=true):K7 pr xs= -1:=by
  rw[K7,Oi hk hb];rfl
theorem Q9 (pr:Nat->Bool)(xs:List Nat):decide (K7 pr xs≥0)=xs.any pr:=by
  unfold K7;split
  · rename_i h;rw[h];exact decide_eq_true (by omega)
  · rename_i h;rw[Bool.not_eq_true]at h;rw[h];rfl
theorem Bu {bs:List Fx}{k:Nat}(hk:k<bs.length)(h:Ot (bs.getD k wF)=false):sj bs=false:=by
  unfold sj
  have:bs.all Ot=false:=by
    rw[List.all_eq_false]
    exact⟨_,Bo (z:=wF) hk,by rw[h];decide⟩
  rw[this];rfl
theorem JU {bs:List Fx}(h:∀j,j<bs.length->Ot (bs.getD j wF)=true):sj bs=(decide (0<bs.length)&&decide (bs.length<=4)):=by
  unfold sj
  have:bs.all Ot=true:=by
    rw[List.all_eq_true]
    intro b hb
    obtain⟨j,hj,rfl⟩:=List.mem_iff_getElem.1 hb
    simpa[List.getD,hj]using h j hj
  rw[this];rfl
theorem Lf {bs:List Fx}(h:sj bs=true):bs.length<=4/\∀j,j<bs.length->Ot (bs.getD j wF)=true:=by
  unfold sj at h
  simp only[Bool.and_eq_true,decide_eq_true_eq,List.all_eq_true]at h
  exact⟨h.2,fun j hj=>h.1.1 _ (Bo (z:=wF) hj)⟩
theorem Bv {b:Fx}(h:Ot b=true):b.keys.length<=12/\¬(b.keys.any fun p=> !right p)=true/\yS b.af=true/\yS b.dl=true/\(b.sec=0\/right b.sec=true):=by
  unfold Ot at h
  simp only[Bool.and_eq_true,Bool.or_eq_true,decide_eq_true_eq,Bool.not_eq_true']at h
  exact⟨h.1.1.1.1,by rw[h.1.1.1.2];decide,h.1.1.2,h.1.2,h.2⟩
theorem U6 {w:World}{r:yH}{b:Fx}(z:Lb w r b)(h1:¬12<((r.kN:Nat):Int))(h2:¬(b.keys.any fun p=> !right p)=true)(h3:yS r.af=true)(h4:yS r.dl=true)(h5:r.sec=0\/right r.sec=true):Ot b=true:=by
  have hk:=z.keys.1
  rw[z.af]at h3
  rw[z.dl]at h4
  rw[z.sec]at h5
  unfold Ot
  simp only[Bool.and_eq_true,Bool.or_eq_true,decide_eq_true_eq,Bool.not_eq_true']
  exact⟨⟨⟨⟨by omega,Bool.eq_false_iff.2 h2⟩,h3⟩,h4⟩,h5⟩
theorem Ra {b:Fx}(h:Ot b=true):b.keys.length<=12/\0<=b.af/\b.af<=1048576/\0<=b.dl/\b.dl<=1048576:=by
  unfold Ot yS at h
  simp only[Bool.and_eq_true,decide_eq_true_eq]at h
  omega
theorem Lg {A:Option Addr}{n c:Nat}{xs:List Nat}{F:Nat}{qR:Array Value}(pr:Nat->Bool)(hgo:jV prog F)(w:World)(hV:Vec w uN 1 A n xs)(hn:n<=1000000)(hz:∀q∈xs,q<18446744073709551616)(hf:∀(q:Nat) (w1:World),q<18446744073709551616->Le w w1->Calls prog F (#[.int .u64 ((q:Nat):Int)]++qR) w1 fun r w2=>r= .returned (.bool (pr q))/\Le w1 w2):Calls prog 137 #[.slice A n c,.func (.func F) #[] qR] w fun r w'=>r= .returned (.int .i64 (K7 pr xs))/\Le w w':=by
 have hl:=hV.1
 refine enter func137 rfl rfl (Sr (Wn 1 rfl (Nx (Sq (Sr (Wn 1 rfl (Wr (.len underlying112 rfl) rfl (Wn 1 rfl (Nx (WC.block (WC.loop (ι:=Nat) (fun k=>[(0,.slice A n c),(1,.func (.func F) #[] qR),(7,.int .i64 ((n:Nat):Int)),(8,.int .i64 ((k:Nat):Int))]) (fun k e=>(k<=n)/\(∀j,j<k->¬pr (xs.getD j 0)=true)/\Le w e/\w.heap.size<=e.heap.size) (fun k=>n-k) 0 ?_ ?_ ?_)))))))))))
 ·exact .of rfl
 ·exact⟨Nat.zero_le _,fun j hj=>absurd hj (Nat.not_lt_zero _),(Le.refl w),Nat.le_refl _⟩
 rintro k e ⟨hk,hq,b,m⟩
 refine Sr (Wn 1 rfl (Nx (Sq ?_)))
 by_cases f:((k:Nat):Int)<((n:Nat):Int)
 ·refine Cy rfl (dT f) (Sn (Sq (WC.block (Sr (Wn 2 rfl (Nx (Sr (Wn 3 rfl (Wa (.lL k underlying112 sZ rfl rfl (hV.isSome kU (by omega)) rfl (by omega)) rfl (Wr (.pg (v:= .int .u64 (((xs.getD k 0):Nat):Int)) qj rfl (hV.le b) kU (lF xs 0 (by omega)) rfl) rfl (W.ef rfl rfl rfl (Ef.D9 hgo rfl rfl rfl (hf _ _ (hz _ (Bo (z:=0) (by omega))) b) ?_))))))))))))
  rintro _ o ⟨rfl,i⟩
  refine⟨_,rfl,?_⟩
  have l:=b.trans i
  refine Nx ?_
  by_cases d:(pr (xs.getD k 0))=true
  ·refine Cy rfl d (Sr (Wn 2 rfl (Nx (Rt (E.j4 (E.jH (E.jH (E.j4 (E.jH (E.jI rfl rfl ?_))))))))))
   exact⟨by rw[Ud (by omega) hq d],l⟩
  refine Cn rfl (Bool.eq_false_iff.2 d) (WC.skip (E.jZ (E.jG (WC.region (Wa (.add rfl rfl (by omega)) rfl (Wn 1 rfl (W.nil (E.again (k+1) (.of rfl) ?_ ?_))))))))
  ·exact⟨by omega,fun j hj=>by rcases Nat.lt_or_ge j k with h|h;exact hq j h;rw[show j=k by omega];exact d,l,by have:=m;have:=i.size;omega⟩
  first|omega|(simp only[];omega)
 refine Cn rfl (dF f) (WC.exit (E.jJ (E.jJ (E.ko (E.jG (Sr (Wn 1 rfl (Nx (Rt (E.jI rfl rfl ?_))))))))))
 exact⟨by rw[Ue (k:=k) (by omega) hq],b⟩

theorem FM {A:Option Addr}{n c:Nat}{xs:List Nat}{F:Nat}{qR:Array Value}(pr:Nat->Bool)(hgo:jV prog F)(w:World)(hV:Vec w uN 1 A n xs)(hn:n<=1000000)(hz:∀q∈xs,q<18446744073709551616)(hf:∀(q:Nat) (w1:World),q<18446744073709551616->Le w w1->Calls prog F (#[.int .u64 ((q:Nat):Int)]++qR) w1 fun r w2=>r= .returned (.bool (pr q))/\Le w1 w2):Calls prog 108 #[.slice A n c,.func (.func F) #[] qR] w fun r w'=>r= .returned (.bool (xs.any pr))/\Le w w':=by
 have hl:=hV.1
 refine enter func108 rfl rfl ?_
 have b:=Le.refl w
 refine Sr (Wn 1 rfl (Nx (Sr (Wn 2 rfl (W.cl UU rfl rfl (Lg pr hgo w (hV.le b) hn hz hf) ?_)))))
 rintro _ f ⟨rfl,d⟩
 have e:=b.trans d
 refine Wn 2 rfl (Nx (Rt (E.jI rfl rfl ?_)))
 exact⟨by rw[<-Q9],e⟩

theorem MH (q:Nat)(hq:q<18446744073709551616)(w:World):Calls prog 140 #[.int .u64 ((q:Nat):Int)] w fun r w'=>r= .returned (.bool (!right q))/\Le w w':=by
 refine enter func140 rfl rfl (Sr (Wn 1 rfl (Nx (Sr (Wn 1 rfl (W.cl Tt rfl rfl (yG q (by first|assumption|omega|decide) w) ?_))))))
 rintro _ c ⟨rfl,b⟩
 refine Wn 2 rfl (Nx (Rt (E.jI rfl rfl ?_)))
 exact⟨rfl,((Le.refl w).trans b)⟩

theorem Ff (n:Int)(w:World):Calls prog 141 #[.int .i64 (n)] w fun r w'=>r= .returned (.bool (yS n))/\Le w w':=by
 refine enter func141 rfl rfl ?_
 have c:=Le.refl w
 refine Sr (Wn 1 rfl (Nx (Sr (Wn 2 rfl ?_))))
 by_cases b:0<=n
 ·refine Dt b rfl rfl (Wn 4 rfl (Nx (Rt (E.jI rfl rfl ?_))))
  exact⟨(by first|rfl|(simp[yS,b];done)|(simp[yS,b];omega)|(simp[yS,b];split<;>first|(exfalso;omega)|(simp;done)|(simp;omega))),c⟩
 refine Df b rfl rfl (Wn 4 rfl (Nx (Rt (E.jI rfl rfl ?_))))
 exact⟨(by first|rfl|(simp[yS,b];done)|(simp[yS,b];omega)|(simp[yS,b];split<;>first|(exfalso;omega)|(simp;done)|(simp;omega))),c⟩

theorem uk {A:Option Addr}{n c:Nat}{rs:List yH}{bs:List Fx}(w:World)(hV:Vec w yI 4 A n rs)(hB:xz w 0 rs bs)(hn:n<=9223372036854775807):Calls prog 114 #[.agg #[.slice A n c]] w fun r w'=>r= .returned (.bool (sj bs))/\Le w w':=by
 have hl:=hV.1
 have aj:=hB.1
 refine enter func114 rfl rfl (Sr (W.ef rfl rfl rfl (Ef.mH rfl fun t B ak (C:jL B t 75 #[.slice A n c]) Y=>(Wn 1 rfl (Nx (Sr (Wn 1 rfl (Nx (Sq (Sr (Wa (.jE vG rfl) rfl (Wr (.jF (v:= .slice A n c) HV rfl C rfl) rfl ?_))))))))))))
 refine Wr (.len underlying73 rfl) rfl (Wn 1 rfl (Nx (WC.block (WC.loop (ι:=Nat) (fun k=>[(1,.pointer (some ⟨t,0,none⟩)),(3,.func (.func 140) #[] #[]),(7,.slice A n c),(8,.int .i64 ((n:Nat):Int)),(9,.int .i64 ((k:Nat):Int))]) (fun k s=>(k<=n)/\(∀j,j<k->Ot (bs.getD j wF)=true)/\Le w s/\B.heap.size<=s.heap.size/\jL s t 75 #[.slice A n c]) (fun k=>n-k) 0 ?_ ?_ ?_))))
 ·exact .of rfl
 ·exact⟨Nat.zero_le _,fun j hj=>absurd hj (Nat.not_lt_zero _),((Le.refl w).trans Y),Nat.le_refl _,C⟩
 rintro k s ⟨hk,hq,i,D,b⟩
 refine Sr (Wn 1 rfl (Nx (Sq ?_)))
 by_cases F:((k:Nat):Int)<((n:Nat):Int)
 ·refine Cy rfl (dT F) (Sn (Sq (WC.block (Sr ?_))))
  have z:=hB.2 k (by omega)
  have za:=z.af;have zd:=z.dl;have zs:=z.sec;have zl:=z.slt;have zk:=z.keys.1;have zz:=z.lt
  refine Wa (.lL k underlying73 Gi rfl rfl (hV.isSome nX (by omega)) rfl (by omega)) rfl (Wr (.tH P8 rfl (hV.le i) nX (lF rs kT (by omega))) rfl (W.ef rfl rfl rfl (Ef.jR Tn fun H Z aa (ab:jL Z H 114 (yI kT).toArray) l=>(W.kP rfl rfl (Ef.storeAll Gi (by rfl) rfl rfl ab (by simp only[List.size_toArray,nX.len]) (nX.one (rs.getD k kT)) ?_)))))
  intro I m o
  have m:jL I H 114 (yI (rs.getD k kT)).toArray:=m
  have u:=(i.trans l).tb o i aa
  refine Nx (Sr (Wa (.jE wY rfl) rfl (Wr (.jF (v:= .slice ((rs.getD k kT).kA) ((rs.getD k kT).kN) ((rs.getD k kT).kC)) Gh rfl m rfl) rfl (Wr (.len underlying112 rfl) rfl (Wn 1 rfl ?_)))))
  by_cases J:12<(((rs.getD k kT).kN:Nat):Int)
  ·refine Dt J rfl rfl (Wn 22 rfl (W.mU rfl rfl rfl rfl rfl (W.mU rfl rfl rfl rfl rfl (W.mU rfl rfl rfl rfl rfl (W.mU rfl rfl rfl rfl rfl (Wn 2 rfl (Nx (WC.jS rfl (Sr (Wn 1 rfl (Nx (Rt (E.j4 (E.jH (E.jH (E.j4 (E.jH ?_)))))))))))))))))
   refine E.jI rfl rfl ?_
   exact⟨rB (Bu (k:=k) (by omega) (Bool.eq_false_iff.2 fun hb=>by obtain⟨e1,e2,e3,e4,e5⟩:=Bv hb;rw[<-za]at e3;rw[<-zd]at e4;rw[<-zs]at e5;first|omega|(simp_all;done))).symm,u⟩
  refine Df J rfl rfl (Wg (Any.rd (.jE wY rfl) _) rfl (Wg (.jF (v:= .slice ((rs.getD k kT).kA) ((rs.getD k kT).kN) ((rs.getD k kT).kC)) Gh rfl m rfl) rfl (Wn 1 rfl (W.mY rfl rfl rfl rfl rfl rfl (Ef.call UO rfl rfl (FM (fun p=> !right p) UW I (z.keys.le u) (by omega) zz (fun q w1 hq _=>MH q hq w1)) ?_)))))
  rintro _ ac ⟨rfl,d⟩
  refine⟨_,rfl,?_⟩
  have K:=u.trans d
  refine Wn 1 rfl ?_
  by_cases L:(((bs.getD k wF).keys).any fun p=> !right p)=true
  ·refine Wa (.dec (.move rfl) L) rfl (Wn 16 rfl (W.mU rfl rfl rfl rfl rfl (W.mU rfl rfl rfl rfl rfl (W.mU rfl rfl rfl rfl rfl (W.mU rfl rfl rfl rfl rfl ?_)))))
   refine Wn 2 rfl (Nx (WC.jS rfl (Sr (Wn 1 rfl (Nx (Rt (E.j4 (E.jH (E.jH (E.j4 (E.jH (E.jI rfl rfl ?_))))))))))))
   exact⟨rB (Bu (k:=k) (by omega) (Bool.eq_false_iff.2 fun hb=>by obtain⟨e1,e2,e3,e4,e5⟩:=Bv hb;rw[<-za]at e3;rw[<-zd]at e4;rw[<-zs]at e5;first|omega|(simp_all;done))).symm,K⟩
  refine Wa (.dec (.move rfl) (Bool.eq_false_iff.2 L)) rfl (Wg (Any.rd (.jE H7 rfl) _) rfl ?_)
  have N:=(m.le d)
  refine Wg (.jF (v:= .int .i64 ((rs.getD k kT).af)) j5 rfl N rfl) rfl (W.mY rfl rfl rfl rfl rfl rfl (Ef.call UX rfl rfl (Ff ((rs.getD k kT).af) ac) ?_))
  rintro _ ad ⟨rfl,e⟩
  refine⟨_,rfl,?_⟩
  have O:=K.trans e
  refine Wn 2 rfl ?_
  by_cases P:(yS ((rs.getD k kT).af))=true
  ·refine Wa (.dec (.move rfl) (congrArg not P)) rfl (Wg (Any.rd (.jE H8 rfl) _) rfl ?_)
   have Q:=(N.le e)
   refine Wg (.jF (v:= .int .i64 ((rs.getD k kT).dl)) j5 rfl Q rfl) rfl (W.mY rfl rfl rfl rfl rfl rfl (Ef.call UX rfl rfl (Ff ((rs.getD k kT).dl) ad) ?_))
   rintro _ ae ⟨rfl,f⟩
   refine⟨_,rfl,?_⟩
   have x:=O.trans f
   refine Wn 2 rfl ?_
   by_cases R:(yS ((rs.getD k kT).dl))=true
   ·refine Wa (.dec (.move rfl) (congrArg not R)) rfl (Wg (Any.rd (.jE Dz rfl) _) rfl ?_)
    have S:=(Q.le f)
    refine Wg (.jF (v:= .int .u64 (((rs.getD k kT).sec:Nat):Int)) qj rfl S rfl) rfl (Wn 1 rfl ?_)
    by_cases T:(((rs.getD k kT).sec:Nat):Int)≠0
    ·refine Wg (Any.rd (.dec (.move rfl) (dT T)) _) rfl (Wn 1 rfl (Wg (Any.rd (.jE Dz rfl) _) rfl (Wg (.jF (v:= .int .u64 (((rs.getD k kT).sec:Nat):Int)) qj rfl S rfl) rfl (W.mY rfl rfl rfl rfl rfl rfl (Ef.call UW rfl rfl (MH ((rs.getD k kT).sec) (by omega) ae) ?_)))))
     rintro _ al ⟨rfl,y⟩
     refine⟨_,rfl,?_⟩
     have U:=x.trans y
     refine Wg (Any.rd (.I5 rfl rfl rfl) _) rfl (Wn 1 rfl (Nx ?_))
     by_cases V:right ((rs.getD k kT).sec)=true
     ·refine Cn rfl (congrArg not V) (WC.skip (E.jZ (E.jG (WC.region (Wa (.add rfl rfl (by omega)) rfl (Wn 1 rfl (W.nil ?_)))))))
      have ah:=(((b.le l).cn o (by have:=b.lt;omega)).le (d.trans (e.trans (f.trans y))))
      refine E.again (k+1) (.of rfl) ?_ ?_
      ·exact⟨by omega,fun j hj=>by rcases Nat.lt_or_ge j k with h|h;exact hq j h;rw[show j=k by omega];exact U6 z (by assumption) (by assumption) (by assumption) (by assumption) (by first|exact .inr (by assumption)|exact .inl (by omega)),U,by have:=D;have:=l.size;have:=o.size;have:=d.size;have:=e.size;have:=f.size;have:=y.size;omega,ah⟩
      first|omega|(simp only[];omega)
     refine Cy rfl (congrArg not (Bool.eq_false_iff.2 V)) (Sr (Wn 1 rfl (Nx (Rt (E.j4 (E.jH (E.jH (E.j4 (E.jH (E.jI rfl rfl ?_))))))))))
     exact⟨rB (Bu (k:=k) (by omega) (Bool.eq_false_iff.2 fun hb=>by obtain⟨e1,e2,e3,e4,e5⟩:=Bv hb;rw[<-za]at e3;rw[<-zd]at e4;rw[<-zs]at e5;first|omega|(simp_all;done))).symm,U⟩
    refine Wg (Any.rd (.dec (.move rfl) (dF T)) _) rfl (Wn 4 rfl (Wg (Any.rd (.I6 rfl rfl rfl) _) rfl (Wn 1 rfl (Nx (WC.kF rfl (WC.skip (E.jZ (E.jG (WC.region (Wa (.add rfl rfl (by omega)) rfl (Wn 1 rfl (W.nil ?_))))))))))))
    have ai:=(((b.le l).cn o (by have:=b.lt;omega)).le (d.trans (e.trans f)))
    refine E.again (k+1) (.of rfl) ?_ ?_
    ·exact⟨by omega,fun j hj=>by rcases Nat.lt_or_ge j k with h|h;exact hq j h;rw[show j=k by omega];exact U6 z (by assumption) (by assumption) (by assumption) (by assumption) (by first|exact .inr (by assumption)|exact .inl (by omega)),x,by have:=D;have:=l.size;have:=o.size;have:=d.size;have:=e.size;have:=f.size;omega,ai⟩
    first|omega|(simp only[];omega)
   refine Wa (.dec (.move rfl) (congrArg not (Bool.eq_false_iff.2 R))) rfl (Wn 4 rfl (W.mU rfl rfl rfl rfl rfl (W.mU rfl rfl rfl rfl rfl (W.mU rfl rfl rfl rfl rfl (W.mU rfl rfl rfl rfl rfl ?_)))))
   refine Wn 2 rfl (Nx (WC.jS rfl (Sr (Wn 1 rfl (Nx (Rt (E.j4 (E.jH (E.jH (E.j4 (E.jH (E.jI rfl rfl ?_))))))))))))
   exact⟨rB (Bu (k:=k) (by omega) (Bool.eq_false_iff.2 fun hb=>by obtain⟨e1,e2,e3,e4,e5⟩:=Bv hb;rw[<-za]at e3;rw[<-zd]at e4;rw[<-zs]at e5;first|omega|(simp_all;done))).symm,x⟩
  refine Wa (.dec (.move rfl) (congrArg not (Bool.eq_false_iff.2 P))) rfl (Wn 10 rfl (W.mU rfl rfl rfl rfl rfl (W.mU rfl rfl rfl rfl rfl (W.mU rfl rfl rfl rfl rfl (W.mU rfl rfl rfl rfl rfl ?_)))))
  refine Wn 2 rfl (Nx (WC.jS rfl (Sr (Wn 1 rfl (Nx (Rt (E.j4 (E.jH (E.jH (E.j4 (E.jH (E.jI rfl rfl ?_))))))))))))
  exact⟨rB (Bu (k:=k) (by omega) (Bool.eq_false_iff.2 fun hb=>by obtain⟨e1,e2,e3,e4,e5⟩:=Bv hb;rw[<-za]at e3;rw[<-zd]at e4;rw[<-zs]at e5;first|omega|(simp_all;done))).symm,O⟩
 refine Cn rfl (dF F) (WC.exit (E.jJ (E.jJ (E.ko (E.jG (Sr (Wa (.jE vG rfl) rfl (Wr (.jF (v:= .slice A n c) HV rfl b rfl) rfl (Wr (.len underlying73 rfl) rfl (Wn 1 rfl ?_))))))))))
 by_cases X:0<((n:Nat):Int)
 ·refine Dt X rfl rfl (Wg (Any.rd (.jE vG rfl) _) rfl (Wg (.jF (v:= .slice A n c) HV rfl b rfl) rfl (Wg (.len underlying73 rfl) rfl (Wn 3 rfl (Nx (Rt (E.jI rfl rfl ?_)))))))
  exact⟨rB (by rw[JU (fun j hj=>hq j (by omega))];rw[Bool.eq_iff_iff];simp only[Bool.and_eq_true,decide_eq_true_eq,Bool.false_eq_true,false_iff];omega),i⟩
 refine Df X rfl rfl (Wn 6 rfl (Nx (Rt (E.jI rfl rfl ?_))))
 exact⟨rB (by rw[JU (fun j hj=>hq j (by omega))];rw[Bool.eq_iff_iff];simp only[Bool.and_eq_true,decide_eq_true_eq,Bool.false_eq_true,false_iff];omega),i⟩

set_option maxHeartbeats 400000 in
theorem yJ {A:Option Addr} {n c:Nat} {rs:List yH} {bs:List Fx} (w:World) (hV:Vec w yI 4 A n rs) (hB:xz w 0 rs bs) (hn:n<=9223372036854775807):Calls prog 121 #[.agg #[.slice A n c]] w fun r w'=>∃A' c' ys,ys.length<=600/\r= .returned (.slice A' ys.length c')/\jO w' w.heap.size 5 kL 1 A' ys.length c' ys/\Le w w':=by
 have hl:=hV.1
 have aG:=hB.1
 have hrn:=lI n (by omega)
 refine enter func121 rfl rfl (Sr (W.ef rfl rfl rfl (Ef.mH rfl fun aa P aH (Q:jL P aa 75 #[.slice A n c]) D=>?_)))
 have F:=(Le.refl w).trans D
 refine Wn 1 rfl (Nx (Sq (Sr (Wr (.jK sM (by rfl) rfl Q) rfl ?_))))
 refine W.cl Gm rfl rfl (uk (c:=c) P (hV.le F) (hB.le F) (by omega)) ?_
 rintro _ H ⟨rfl,l⟩
 have I:=F.trans l
 refine Wn 1 rfl (Nx ?_)
 by_cases R:(sj bs)=true
 ·refine Cn rfl (congrArg not R) ?_
  have hlp:=Lf (by assumption)
  refine Sn (Sr (Wa (.jE vG rfl) rfl ?_))
  have S:=(Q.le l)
  refine Wr (.jF (v:= .slice A n c) HV rfl S rfl) rfl (Wr (.len underlying73 rfl) rfl (W.cl EJ rfl rfl (uG n (by omega) H (Vec.nil _ _ _ _) (by first|omega|(simp only[List.length_append,List.length_nil];omega))) ?_))
  rintro _ ab ⟨ac,ad,rfl,ae,d⟩
  have L4:=I.trans d
  refine Wn 1 rfl (Nx (Sq (Sr (Wa (.jE vG rfl) rfl (Wr (.jF (v:= .slice A n c) HV rfl (S.le d) rfl) rfl (Wr (.len underlying73 rfl) rfl (Wn 1 rfl (Nx (WC.block (WC.loop (ι:=Nat×(List (BitVec 8))×(Option Addr)×Nat) (fun⟨k,xs,Aa,ca⟩=>[(3,.slice Aa xs.length ca),(16,.slice A n c),(17,.int .i64 ((n:Nat):Int)),(18,.int .i64 ((k:Nat):Int))]) (fun⟨k,xs,Aa,ca⟩ e=>(k<=n)/\(xs.length<=10+134*k)/\Le w e/\ab.heap.size<=e.heap.size/\jO e H.heap.size 5 kL 1 Aa xs.length ca xs) (fun⟨k,xs,Aa,ca⟩=>n-k) (0,([]++mG n),ac,ad) ?_ ?_ ?_))))))))))
  ·exact .of rfl
  ·exact⟨Nat.zero_le _,by simp only[List.nil_append];omega,L4,Nat.le_refl _,ae⟩
  rintro⟨k,xs,Aa,ca⟩ e ⟨hk,hx,m,T,J⟩
  have aI:H.heap.size<=e.heap.size:=by have:=d.size;omega
  refine Sr (Wn 1 rfl (Nx (Sq ?_)))
  by_cases U:((k:Nat):Int)<((n:Nat):Int)
  ·refine Cy rfl (dT U) (Sn (Sq (WC.block (Sr ?_))))
   have z:=hB.2 k (by omega)
   have za:=z.af;have zd:=z.dl;have zs:=z.sec;have zl:=z.slt;have zk:=z.keys.1;have zz:=z.lt
   obtain⟨e1,e2,e3,e4,e5⟩:=Ra (hlp.2 k (by omega))
   have hra:=lI (rs.getD k kT).af.toNat (by omega);have hrd:=lI (rs.getD k kT).dl.toNat (by omega);have WL:=lI (rs.getD k kT).kN (by omega)
   refine Wa (.lL k underlying73 Gi rfl rfl (hV.isSome nX (by omega)) rfl (by omega)) rfl (Wr (.tH P8 rfl (hV.le m) nX (lF rs kT (by omega))) rfl (W.ef rfl rfl rfl (Ef.jR Tn fun o ah ai (aj:jL ah o 114 (yI kT).toArray) s=>(W.kP rfl rfl (Ef.storeAll Gi (by rfl) rfl rfl aj (by simp only[List.size_toArray,nX.len]) (nX.one (rs.getD k kT)) ?_)))))
   intro t u x
   have u:jL t o 114 (yI (rs.getD k kT)).toArray:=u
   refine Nx (Sr (Wn 1 rfl (Wa (.jE wY rfl) rfl (Wr (.jF (v:= .slice ((rs.getD k kT).kA) ((rs.getD k kT).kN) ((rs.getD k kT).kC)) Gh rfl u rfl) rfl (Wr (.len underlying112 rfl) rfl ?_)))))
   have f8:=((J.le s).cb x (J.rn (by omega)))
   refine W.cl EJ rfl rfl (uG ((rs.getD k kT).kN) (by omega) t f8.vec (by first|omega|(simp only[List.length_append,List.length_nil];omega))) ?_
   rintro _ ak ⟨al,am,rfl,an,f⟩
   have L9:=((m.trans s).tb x m ai).trans f
   refine Wn 1 rfl (Nx (Sq (Sr (Wa (.jE wY rfl) rfl ?_))))
   have V:=(u.le f)
   refine Wr (.jF (v:= .slice ((rs.getD k kT).kA) ((rs.getD k kT).kN) ((rs.getD k kT).kC)) Gh rfl V rfl) rfl (Wr (.len underlying112 rfl) rfl (Wn 1 rfl (Nx (WC.block ?_))))
   refine WC.loop (ι:=Nat×(List (BitVec 8))×(Option Addr)×Nat) (fun⟨j,ys,Ab,cb⟩=>[(3,.slice Ab ys.length cb),(5,.pointer (some ⟨o,0,none⟩)),(16,.slice A n c),(17,.int .i64 ((n:Nat):Int)),(18,.int .i64 ((k:Nat):Int)),(28,.slice ((rs.getD k kT).kA) ((rs.getD k kT).kN) ((rs.getD k kT).kC)),(29,.int .i64 (((rs.getD k kT).kN:Nat):Int)),(30,.int .i64 ((j:Nat):Int))]) (fun⟨j,ys,Ab,cb⟩ b=>(j<=(rs.getD k kT).kN)/\(ys.length<=20+134*k+8*j)/\Le w b/\ak.heap.size<=b.heap.size/\jO b t.heap.size 5 kL 1 Ab ys.length cb ys/\jL b o 114 (yI (rs.getD k kT)).toArray) (fun⟨j,ys,Ab,cb⟩=>(rs.getD k kT).kN-j) (0,(xs++mG (rs.getD k kT).kN),al,am) ?_ ?_ ?_
   ·exact .of rfl
   ·exact⟨Nat.zero_le _,by simp only[List.length_append];omega,L9,Nat.le_refl _,an,V⟩
   rintro⟨j,ys,Ab,cb⟩ b ⟨hj,hy,K,L,X,Y⟩
   have aJ:t.heap.size<=b.heap.size:=by have:=f.size;omega
   refine Sr (Wn 1 rfl (Nx (Sq ?_)))
   by_cases Z:((j:Nat):Int)<(((rs.getD k kT).kN:Nat):Int)
   ·refine Cy rfl (dT Z) (Sn (Sq (WC.block (Sr (Wa (.lL j underlying112 sZ rfl rfl (z.keys.isSome kU (by omega)) rfl (by omega)) rfl (Wr (.pg (v:= .int .u64 (((((bs.getD k wF).keys).getD j 0):Nat):Int)) qj rfl (z.keys.le K) kU (lF ((bs.getD k wF).keys) 0 (by first|omega|(simp only[List.length_cons,List.length_nil];omega))) rfl) rfl ?_))))))
    refine Wn 1 rfl (Nx (WC.region (Wn 2 rfl (W.cl VL rfl rfl (Ie (((bs.getD k wF).keys).getD j 0) b X.vec (by first|omega|(simp only[List.length_append,List.length_nil];omega))) ?_))))
    rintro _ aK ⟨ao,ap,aq,aL,rfl,ar,N⟩
    have au:=K.trans N
    refine Wn 1 rfl (W.nil (E.jZ (E.jG (WC.region (Wa (.add rfl rfl (by omega)) rfl (Wn 1 rfl (W.nil (E.again (j+1,(ys++aq),ao,ap) (.of rfl) ?_ ?_))))))))
    ·exact⟨by omega,by simp only[List.length_append];omega,au,by have:=L;have:=N.size;omega,(ar.mono (by omega)),(Y.le N)⟩
    first|omega|(simp only[];omega)
   refine Cn rfl (dF Z) (WC.exit (E.jJ (E.jJ (E.ko (E.jG (WC.draw [0,1,2,4,5,7,8,3,6,9,10] mixed (by kernel_rfl) fun av i=>(Gn 1 rfl (Ga rfl (.jE H7 rfl) ?_))))))))
   have O:=(Y.le i)
   refine Gd rfl (.jF (v:= .int .i64 ((rs.getD k kT).af)) j5 rfl O rfl) (Ga rfl (.jE H8 rfl) (Gd rfl (.jF (v:= .int .i64 ((rs.getD k kT).dl)) j5 rfl O rfl) (Ga rfl (.jE Dz rfl) (Gd rfl (.jF (v:= .int .u64 (((rs.getD k kT).sec:Nat):Int)) qj rfl O rfl) (G.ef rfl rfl rfl rfl rfl ?_)))))
   refine Ef.call EJ rfl rfl (by have q:=uG ((rs.getD k kT).af).toNat (by omega) (c:=cb) av (X.le i).vec (by first|omega|(simp only[List.length_append,List.length_nil];omega));rw[Int.toNat_of_nonneg (by omega)]at q;exact q) ?_
   rintro _ aw ⟨aM,ax,rfl,ay,y⟩
   refine⟨_,rfl,?_⟩
   refine⟨fun _=>y,?_⟩
   refine G.ef rfl rfl rfl rfl rfl (Ef.call EJ rfl rfl (by have q:=uG ((rs.getD k kT).dl).toNat (by omega) (c:=ax) aw ay.vec (by first|omega|(simp only[List.length_append,List.length_nil];omega));rw[Int.toNat_of_nonneg (by omega)]at q;exact q) ?_)
   rintro _ az ⟨aN,aO,rfl,aA,B⟩
   refine⟨_,rfl,?_⟩
   refine⟨fun _=>B,?_⟩
   refine G.ef rfl rfl rfl rfl rfl (Ef.call VL rfl rfl (Ie ((rs.getD k kT).sec) az aA.vec (by first|omega|(simp only[List.length_append,List.length_nil];omega))) ?_)
   rintro _ aP ⟨aB,aC,aD,aQ,rfl,aE,C⟩
   refine⟨_,rfl,?_⟩
   refine⟨fun _=>C,?_⟩
   have aF:=(((K.trans i).trans y).trans B).trans C
   refine Gn 1 rfl (G.nil (E.jZ (E.jG (WC.region (Wa (.add rfl rfl (by omega)) rfl (Wn 1 rfl (W.nil (E.again (k+1,(((ys++mG ((rs.getD k kT).af).toNat)++mG ((rs.getD k kT).dl).toNat)++aD),aB,aC) (.of rfl) ?_ ?_))))))))
   ·exact⟨by omega,by simp only[List.length_append];omega,aF,by have:=T;have:=i.size;have:=y.size;have:=B.size;have:=C.size;have:=L;have:=D.size;have:=l.size;have:=d.size;have:=s.size;have:=x.size;have:=f.size;omega,(aE.mono (by have:=T;have:=i.size;have:=y.size;have:=B.size;have:=C.size;have:=L;have:=D.size;have:=l.size;have:=d.size;have:=s.size;have:=x.size;have:=f.size;omega))⟩
   first|omega|(simp only[];omega)
  refine Cn rfl (dF U) (WC.exit (E.jJ (E.jJ (E.ko (E.jG (Sr (Wn 2 rfl (Nx (Rt (E.jI rfl rfl ?_))))))))))
  exact⟨_,_,xs,by omega,rfl,(J.mono I.size),m⟩
 refine Cy rfl (congrArg not (Bool.eq_false_iff.2 R)) (Sr (Wn 1 rfl (Nx (Rt (E.jH (E.jI rfl rfl ?_))))))
 exact⟨_,_,[],Nat.zero_le _,rfl,jO.nil _ _ _ _ _ _,I⟩
end Go.Proofs.YtcaehidaejhdfaaGreat

namespace Go.Sx
open Go Go.RowKit
section
variable {α β:Type}{w w':World}{b1 b2 e1 e2 s1 s2 n1 n2 c d:Nat}{f:α->List Value}{g:β->List Value}{A B:Option Addr}{xs:List α}{ys:List β}
theorem jO.lu (h1:jO w b1 e1 f s1 A n1 c xs)(h2:jO w b2 e2 g s2 B n2 d ys)(hne:e1≠e2):Apart A c B d:=fun q hA hB=>by
  rcases h2.2.2 with⟨_,rfl⟩|⟨g',cur,rfl,_,hh,_⟩
  · rw[lC]at hB;cases hB
  · have:=qY hB
    subst this
    exact jO.lY h1 (show jL w _ e2 cur from hh) hne hA
theorem jO.Rb (h1:jO w b1 e1 f s1 A n1 c xs)(hc:Ch w w' (rowOf B d))(h2:jO w b2 e2 g s2 B n2 d ys)(hne:e1≠e2):jO w' b1 e1 f s1 A n1 c xs:=h1.ch hc fun q hq ha=>h1.lu h2 hne q ha hq
theorem jO.Lh {t k:Nat}{cs:Array Value}(h1:jO w b1 e1 f s1 A n1 c xs)(hc:Ch w w' (some k))(h2:jL w k t cs)(hne:e1≠t):jO w' b1 e1 f s1 A n1 c xs:=h1.ch hc fun q hq ha=>by
  cases hq
  exact h1.lY h2 hne ha
theorem Wh {t t' k:Nat}{cs cs':Array Value}(h:jL w k t cs)(h':jL w k t' cs'):t=t':=by
  have e1:w.heap[k]? =_:=h
  have e2:w.heap[k]? =_:=h'
  rw[e1]at e2
  injection e2 with e3
  injection e3
theorem jO.MI (h:jO w b1 e1 f s1 A n1 c xs){q:Nat}(hq:rowOf A c=some q):∃cs,jL w q e1 cs:=by
  rcases h.2.2 with⟨_,rfl⟩|⟨g',cur,rfl,_,hh,_⟩
  · rw[lC]at hq;cases hq
  · rw[qY hq];exact⟨_,hh⟩
end
end Go.Sx
namespace Go.Proofs.YtcaehidaejhdfaaGreat
open Tryz
open Go Go.Sx Go.wI Go.Num Go.Ac Go.rZ Go.Lsp Go.Fv Go.Dk
set_option maxRecDepth 20000
def uK (w:World)(base g:Nat)(F:Nat->Prop)(s:List (BitVec 8)×Bool):Prop:=∃A n c,jL w g 198 #[.slice A n c,.bool s.2]/\Vec w kL 1 A n s.1/\n<=c/\n<=100000/\base<=g/\
  ∃B:Option Nat,(0<n->lU A=B)/\(∀k,F k↔(k=g\/B=some k))/\∀q,B=some q->base<=q/\q<w.heap.size/\q≠g/\∃cs,jL w q 5 cs
section
variable {w w':World}{base g:Nat}{F:Nat->Prop}{s:List (BitVec 8)×Bool}
theorem uK.kX {F':Nat->Prop}(h:uK w base g F s)(hc:ll w w' F')(hne:∀k,F k->¬F' k):uK w' base g F s:=by
  obtain⟨A,n,c,e,f,i,j,l,B,d,b,m⟩:=h
  refine⟨A,n,c,e.kX hc (hne _ ((b _).2 (.inl rfl))),f.kX hc (fun q hq hm _=>hne _ ((b _).2 (.inr (by rw[<-d hm];exact hq)))),i,j,l,B,d,b,fun q hq=>?_⟩
  obtain⟨k1,k2,o,cs,t⟩:=m q hq
  exact⟨k1,Nat.lt_of_lt_of_le k2 hc.size,o,cs,t.kX hc (hne _ ((b _).2 (.inr hq)))⟩
theorem uK.ch {r:Option Nat}(h:uK w base g F s)(hc:Ch w w' r)(hne:∀k,r=some k->¬F k):uK w' base g F s:=h.kX (hc.kX (F:=fun k=>r=some k) (fun i hi=>hi)) (fun k hk hr=>hne k hr hk)
theorem uK.le (h:uK w base g F s)(hl:Le w w'):uK w' base g F s:=h.kX (hl.kX (fun _=>False)) (fun _ _ hf=>hf)
theorem uK.lt (h:uK w base g F s){k:Nat}(hk:F k):k<w.heap.size:=by
  obtain⟨A,n,c,b,f,i,j,l,B,m,d,e⟩:=h
  rcases(d k).1 hk with rfl|hq
  · exact b.lt
  · exact(e k hq).2.1
theorem uK.old (h:uK w base g F s){k:Nat}(hk:F k):base<=k:=by
  obtain⟨A,n,c,f,i,j,l,b,B,m,d,e⟩:=h
  rcases(d k).1 hk with rfl|hq
  · exact b
  · exact(e k hq).1
theorem uK.len (h:uK w base g F s):s.1.length<=100000:=by
  obtain⟨A,n,c,d,b,e,f,i,B,j,k,l⟩:=h
  have:=b.1
  omega
theorem uK.qE {k t:Nat}{cs:Array Value}(h:uK w base g F s)(hB:jL w k t cs)(e1:198≠t)(e2:5≠t):¬F k:=fun hF=>by
  obtain⟨A,n,c,b,i,j,l,m,B,o,d,e⟩:=h
  rcases(d k).1 hF with rfl|hq
  · exact e1 (Wh b hB)
  · obtain⟨_,_,_,cs,f⟩:=e k hq
    exact e2 (Wh f hB)
theorem uK.rV {b e sz n c:Nat}{α:Type}{f:α->List Value}{A:Option Addr}{xs:List α}(h:uK w base g F s)(ho:jO w b e f sz A n c xs)(h1:198≠e)(h2:5≠e):∀k,rowOf A c=some k->¬F k:=fun k hk=>by
  obtain⟨cs,hB⟩:=ho.MI hk
  exact h.qE hB h1 h2
def Rc (s s':List (BitVec 8)×Bool):Prop:=(s.2=true->s'.2=true)/\s'.1.length<=s.1.length
def Oz (s:List (BitVec 8)×Bool)(v:Nat)(s':List (BitVec 8)×Bool):Prop:=v<9223372036854775808/\Rc s s'/\(s.1=[]->s'.2=true)/\∀d t,s.1=d::t->d.toNat<128->v=d.toNat/\s'=(t,s.2)
def U7 (s s':List (BitVec 8)×Bool):Prop:=Rc s s'/\(s.2=false->32<=s.1.length->s'=(s.1.drop 32,false))
theorem uK.next {A A':Option Addr}{n c n' c':Nat}{xs':List (BitVec 8)}{no':Bool}{B:Option Nat}(h2:Vec w kL 1 A n s.1)(h3:n<=c)(h4:n<=100000)(h5:base<=g)(h6:0<n->lU A=B)(h7:∀k,F k↔(k=g\/B=some k))(h8:∀q,B=some q->base<=q/\q<w.heap.size/\q≠g/\∃cs,jL w q 5 cs)
    (hb:jL w' g 198 #[.slice A' n' c',.bool no'])(k:JS A n s.1 s.2 A' n' c' xs' no')(hc:ll w w' (fun k=>k=g)):uK w' base g F (xs',no')/\Rc s (xs',no')/\ll w w' F:=by
  have hV:=k.sub w h2
  have hq:∀q,B=some q->q≠g:=fun q hq=>(h8 q hq).2.2.1
  refine⟨⟨A',n',c',hb,hV.kX hc (fun q b f _ he=>hq q ?_ he),k.cap,Nat.le_trans k.len h4,h5,B,fun b=>(k.blk b).trans (h6 (by have:=k.len;omega)),h7,fun q e=>?_⟩,⟨k.nop,?_⟩,hc.mono (fun i hi _=>(h7 i).2 (.inl hi))⟩
  · rw[<-h6 (by have:=k.len;omega),<-k.blk f];exact b
  · obtain⟨k1,k2,d,cs,j⟩:=h8 q e
    exact⟨k1,Nat.lt_of_lt_of_le k2 hc.size,d,cs,j.kX hc d⟩
  · show xs'.length<=s.1.length
    have e1:=hV.1
    have e2:=h2.1
    have:=k.len
    omega
theorem xf (h:uK w base g F s):Calls prog 78 #[.pointer (some ⟨g,0,none⟩)] w fun r w'=>∃v s',r= .returned (.int .i64 ((v:Nat):Int))/\Oz s v s'/\uK w' base g F s'/\ll w w' F:=by
  obtain⟨A,n,c,m,e,f,i,o,B,j,u,l⟩:=h
  refine(MG w m e f i (fun x he=>(l g (j x▸he)).2.2.1 rfl)).mono ?_
  rintro r w' ⟨v,A',n',c',xs',no',rfl,hb,k,hc⟩
  obtain⟨e1,e2,e3⟩:=uK.next e f i o j u l hb k.b hc
  refine⟨v,(xs',no'),rfl,⟨k.Ze,e2,fun hn=>k.nil ?_,fun d t hx hd=>?_⟩,e1,e3⟩
  · have:=e.1;rw[hn]at this;simpa using this.symm
  · obtain⟨y,z,C⟩:=k.one d t hx hd
    exact⟨y,by rw[z,C]⟩
theorem Fg (h:uK w base g F s):Calls prog 82 #[.pointer (some ⟨g,0,none⟩)] w fun r w'=>∃v s',r= .returned (.int .u64 ((v:Nat):Int))/\v<18446744073709551616/\Rc s s'/\uK w' base g F s'/\ll w w' F:=by
  obtain⟨A,n,c,j,b,d,e,l,B,f,m,i⟩:=h
  refine(Uc w j b d e (fun o he=>(i g (f o▸he)).2.2.1 rfl)).mono ?_
  rintro r w' ⟨v,A',n',c',xs',no',hv,rfl,hb,k,hc⟩
  obtain⟨e1,e2,e3⟩:=uK.next b d e l f m i hb k hc
  exact⟨v,(xs',no'),rfl,hv,e2,e1,e3⟩
theorem Uf (h:uK w base g F s):Calls prog 79 #[.pointer (some ⟨g,0,none⟩)] w fun r w'=>∃(m:List (BitVec 8)) (s':List (BitVec 8)×Bool),r= .returned (.agg (qX m).toArray)/\m.length=32/\U7 s s'/\uK w' base g F s'/\ll w w' F:=by
  obtain⟨A,n,c,l,d,e,f,o,B,i,t,j⟩:=h
  refine(Q6 w l d e f (fun u he=>(j g (i u▸he)).2.2.1 rfl)).mono ?_
  rintro r w' ⟨m,A',n',c',xs',no',hm,rfl,hb,⟨ys,k⟩,hc⟩
  obtain⟨e1,e2,e3⟩:=uK.next d e f o i t j hb k.b hc
  refine⟨m,(xs',no'),by rw[sD hm],hm,⟨e2,fun hs hl=>?_⟩,e1,e3⟩
  obtain⟨v,x,_⟩:=k.ok hs (by have:=d.1;omega)
  rw[v,x]
theorem Re (h:uK w base g F s):Calls prog 81 #[.pointer (some ⟨g,0,none⟩)] w fun r w'=>∃A' c' ys s',r= .returned (.slice A' ys.length c')/\jO w' w.heap.size 5 kL 1 A' ys.length c' ys/\ys.length<=100000/\Rc s s'/\uK w' base g F s'/\ll w w' F:=by
  obtain⟨A,n,c,j,d,e,b,l,B,f,m,i⟩:=h
  refine(Oy w j d e b (fun o he=>(i g (f o▸he)).2.2.1 rfl)).mono ?_
  rintro r w' ⟨t,u,ys,A',n',c',xs',no',rfl,ho,hy,hb,k,hc⟩
  obtain⟨e1,e2,e3⟩:=uK.next d e b l f m i hb k hc
  exact⟨t,u,ys,(xs',no'),rfl,ho,Nat.le_trans hy b,e2,e1,e3⟩
theorem Zj (h:uK w base g F s):Calls prog 83 #[.pointer (some ⟨g,0,none⟩)] w fun r w'=>r= .returned (.bool (!s.2))/\Le w w':=by
  obtain⟨A,n,c,b,_⟩:=h
  exact We w b
theorem Ug (h:uK w base g F s):Calls prog 84 #[.pointer (some ⟨g,0,none⟩)] w fun r w'=>r= .returned (.int .i64 ((s.1.length:Nat):Int))/\Le w w':=by
  obtain⟨A,n,c,b,d,_⟩:=h
  rw[d.1]
  exact Q8 w b
end
theorem MJ {A:Option Addr}{n c:Nat}{xs:List (BitVec 8)}(w:World)(hV:Vec w kL 1 A n xs)(hn:n<=100000):Calls prog 76 #[.slice A n c] w fun r w'=>∃g F,r= .returned (.pointer (some ⟨g,0,none⟩))/\uK w' w.heap.size g F (xs,false)/\Le w w':=by
  refine(Q7 (c:=c) w hV hn).mono ?_
  rintro r w' ⟨g,A',c',rfl,hg,hb,ho,hl⟩
  refine⟨g,fun k=>k=g\/rowOf A' c'=some k,rfl,⟨A',n,c',hb,ho.vec,ho.cap.1,hn,hg,rowOf A' c',fun b=>?_,fun k=>Iff.rfl,fun q hq=>?_⟩,hl⟩
  · have:=ho.cap.1
    unfold rowOf
    rw[if_neg (by omega)]
  · obtain⟨cs,hq'⟩:=ho.MI hq
    exact⟨(ho.row hq).1,(ho.row hq).2,fun he=>absurd (Wh (he▸hq') hb) (by decide),cs,hq'⟩
structure Wi (w:World)(bs:Nat)(r:yH)(b:Fx):Prop where
  af:r.af=b.af
  dl:r.dl=b.dl
  sec:r.sec=b.sec
  slt:b.sec<18446744073709551616
  keys:jO w bs 39 uN 1 r.kA r.kN r.kC b.keys
  lt:∀k∈b.keys,k<18446744073709551616
def nI (w:World)(b:Nat)(rs:List yH)(bs:List Fx):Prop:=rs.length=bs.length/\∀i,i<bs.length->Wi w b (rs.getD i kT) (bs.getD i wF)
structure ZG (w:World)(b:Nat)(r:uO)(o:nC):Prop where
  am:r.am=o.am
  few:o.bs.length<=9223372036854775807
  rows:∃rs,jO w b 114 yI 4 r.bA r.bN r.bC rs/\nI w b rs o.bs
def oG (w:World)(b:Nat)(rs:List uO)(os:List nC):Prop:=rs.length=os.length/\∀i,i<os.length->ZG w b (rs.getD i kQ) (os.getD i oO)
section
variable {w w' w0:World}{b b':Nat}{r:yH}{z:Fx}{rs:List yH}{bs:List Fx}{o:uO}{y:nC}{os:List uO}{ys:List nC}{F:Nat->Prop}
theorem Wi.weak (h:Wi w b r z):Lb w r z:=⟨h.1,h.2,h.3,h.4,h.5.vec,h.6⟩
theorem nI.weak (h:nI w b rs bs):xz w 0 rs bs:=⟨h.1,fun i hi=>(h.2 i hi).weak⟩
theorem ZG.weak (h:ZG w b o y):Oq w o y:=⟨h.1,h.2,let⟨q,h1,h2⟩:=h.3;⟨q,h1.vec,h2.weak⟩⟩
theorem oG.weak (h:oG w b os ys):oF w 0 os ys:=⟨h.1,fun i hi=>(h.2 i hi).weak⟩
theorem Wi.map (h:Wi w b r z)(k:∀A n c (xs:List Nat),jO w b 39 uN 1 A n c xs->jO w' b' 39 uN 1 A n c xs):Wi w' b' r z:=⟨h.1,h.2,h.3,h.4,k _ _ _ _ h.5,h.6⟩
theorem nI.map (h:nI w b rs bs)(k:∀A n c (xs:List Nat),jO w b 39 uN 1 A n c xs->jO w' b' 39 uN 1 A n c xs):nI w' b' rs bs:=⟨h.1,fun i hi=>(h.2 i hi).map k⟩
theorem oG.map (h:oG w b os ys)(k:∀A n c (xs:List Nat),jO w b 39 uN 1 A n c xs->jO w' b' 39 uN 1 A n c xs)(k2:∀A n c (xs:List yH),jO w b 114 yI 4 A n c xs->jO w' b' 114 yI 4 A n c xs):oG w' b' os ys:=
  ⟨h.1,fun i hi=>⟨(h.2 i hi).1,(h.2 i hi).2,let⟨q,d,e⟩:=(h.2 i hi).3;⟨q,k2 _ _ _ _ d,e.map k⟩⟩⟩
theorem nI.le (h:nI w b rs bs)(k:Le w w'):nI w' b rs bs:=h.map fun _ _ _ _ q=>q.le k
theorem oG.le (h:oG w b os ys)(k:Le w w'):oG w' b os ys:=h.map (fun _ _ _ _ q=>q.le k) (fun _ _ _ _ q=>q.le k)
theorem nI.mono (h:nI w b rs bs)(k:b'<=b):nI w b' rs bs:=h.map fun _ _ _ _ q=>q.mono k
theorem oG.mono (h:oG w b os ys)(k:b'<=b):oG w b' os ys:=h.map (fun _ _ _ _ q=>q.mono k) (fun _ _ _ _ q=>q.mono k)
theorem nI.kX (h:nI w b rs bs)(k:ll w w' F)(hF:∀i,F i->i<b):nI w' b rs bs:=h.map fun _ _ _ _ q=>q.kX k fun g hg hf=>by have:=(q.row hg).1;have:=hF g hf;omega
theorem oG.kX (h:oG w b os ys)(k:ll w w' F)(hF:∀i,F i->i<b):oG w' b os ys:=h.map (fun _ _ _ _ q=>q.kX k fun g hg hf=>by have:=(q.row hg).1;have:=hF g hf;omega) (fun _ _ _ _ q=>q.kX k fun g hg hf=>by have:=(q.row hg).1;have:=hF g hf;omega)
theorem nI.U8 {b1 e s n c:Nat}{α:Type}{f:α->List Value}{A:Option Addr}{xs:List α}(h:nI w b rs bs)(k:Ch w w' (rowOf A c))(o:jO w b1 e f s A n c xs)(h1:39≠e):nI w' b rs bs:=h.map fun _ _ _ _ q=>q.Rb k o h1
theorem oG.U8 {b1 e s n c:Nat}{α:Type}{f:α->List Value}{A:Option Addr}{xs:List α}(h:oG w b os ys)(k:Ch w w' (rowOf A c))(o:jO w b1 e f s A n c xs)(h1:39≠e)(h2:114≠e):oG w' b os ys:=h.map (fun _ _ _ _ q=>q.Rb k o h1) (fun _ _ _ _ q=>q.Rb k o h2)
theorem nI.rE {g t:Nat}{cs:Array Value}(h:nI w b rs bs)(k:Ch w w' (some g))(o:jL w g t cs)(h1:39≠t):nI w' b rs bs:=h.map fun _ _ _ _ q=>q.Lh k o h1
theorem oG.rE {g t:Nat}{cs:Array Value}(h:oG w b os ys)(k:Ch w w' (some g))(o:jL w g t cs)(h1:39≠t)(h2:114≠t):oG w' b os ys:=h.map (fun _ _ _ _ q=>q.Lh k o h1) (fun _ _ _ _ q=>q.Lh k o h2)
theorem nI.MK {base gp:Nat}{G:Nat->Prop}{s:List (BitVec 8)×Bool}(h:nI w b rs bs)(k:ll w w' G)(hp:uK w base gp G s)(h1:198≠39)(h2:5≠39)(h3:198≠39)(h4:5≠39):nI w' b rs bs:=h.map fun _ _ _ _ q=>q.kX k (hp.rV q h1 h2)
theorem oG.MK {base gp:Nat}{G:Nat->Prop}{s:List (BitVec 8)×Bool}(h:oG w b os ys)(k:ll w w' G)(hp:uK w base gp G s)(h1:198≠39)(h2:5≠39)(h3:198≠114)(h4:5≠114):oG w' b os ys:=h.map (fun _ _ _ _ q=>q.kX k (hp.rV q h1 h2)) (fun _ _ _ _ q=>q.kX k (hp.rV q h3 h4))
theorem nI.abv (h:nI w b rs bs)(h0:nI w0 b rs bs)(k:∀A n c (xs:List Nat),jO w b 39 uN 1 A n c xs->jO w0 b 39 uN 1 A n c xs->jO w' b 39 uN 1 A n c xs):nI w' b rs bs:=⟨h.1,fun i hi=>⟨(h.2 i hi).1,(h.2 i hi).2,(h.2 i hi).3,(h.2 i hi).4,k _ _ _ _ (h.2 i hi).5 (h0.2 i hi).5,(h.2 i hi).6⟩⟩
theorem nI.Zk {r:Option Nat}(h:nI w b rs bs)(h0:nI w0 b rs bs)(k:Ch w w' r)(hn:∀q,r=some q->w0.heap.size<=q):nI w' b rs bs:=h.abv h0 fun _ _ _ _ q c=>q.ch k fun g hg ha=>by have:=(c.row ha).2;have:=hn g hg;omega
theorem nI.nil (w:World)(b:Nat):nI w b [] []:=⟨rfl,fun i hi=>absurd hi (Nat.not_lt_zero _)⟩
theorem oG.nil (w:World)(b:Nat):oG w b [] []:=⟨rfl,fun i hi=>absurd hi (Nat.not_lt_zero _)⟩
theorem Bw {α:Type}{z x:α}{l:List α}{i:Nat}(h:i<l.length):(l++[x]).getD i z=l.getD i z:=by
  rw[List.getD_eq_getElem?_getD,List.getD_eq_getElem?_getD,List.getElem?_append_left h]
theorem Bz {α:Type}{z x:α}{l:List α}:(l++[x]).getD l.length z=x:=by
  rw[List.getD_eq_getElem?_getD,List.getElem?_append_right (Nat.le_refl _),Nat.sub_self]
  rfl
theorem nI.push (h:nI w b rs bs)(k:Wi w b r z):nI w b (rs++[r]) (bs++[z]):=by
  refine⟨by simp[h.1],fun i hi=>?_⟩
  simp only[List.length_append,List.length_cons,List.length_nil]at hi
  by_cases e:i<bs.length
  · rw[Bw e,Bw (by rw[h.1];exact e)]
    exact h.2 i e
  · have:i=bs.length:=by omega
    subst this
    rw[Bz,<-h.1,Bz]
    exact k
theorem oG.push (h:oG w b os ys)(k:ZG w b o y):oG w b (os++[o]) (ys++[y]):=by
  refine⟨by simp[h.1],fun i hi=>?_⟩
  simp only[List.length_append,List.length_cons,List.length_nil]at hi
  by_cases e:i<ys.length
  · rw[Bw e,Bw (by rw[h.1];exact e)]
    exact h.2 i e
  · have:i=ys.length:=by omega
    subst this
    rw[Bz,<-h.1,Bz]
    exact k
end
end Go.Proofs.YtcaehidaejhdfaaGreat

namespace Go.Proofs.YtcaehidaejhdfaaGreat
open Tryz
open Go Go.Sx Go.wI Go.Num Go.Ac Go.rZ Go.Lsp Go.Fv Go.Dk
set_option maxRecDepth 20000
theorem Uh {A:Option Addr}{n c:Nat}{xs:List Nat}(w:World)(hV:Vec w uN 1 A n xs)(hn:n<=100000):Calls prog 115 #[.slice A n c] w fun r w'=>∃Ab cb Ak ck,r= .returned (.agg #[.slice Ab 1 cb])/\jO w' w.heap.size 114 yI 4 Ab 1 cb [(⟨Ak,n,ck,0,0,0⟩:yH)]/\jO w' w.heap.size 39 uN 1 Ak n ck xs/\Le w w':=by
 have hl:=hV.1
 refine enter func115 rfl rfl ?_
 have s:=Le.refl w
 refine Sr (W.ef rfl rfl rfl (Ef.jR z75 fun t u B (d:jL u t 75 #[.slice none 0 0]) C=>?_))
 have e:=s.trans C
 refine Nx (Sr (Wn 1 rfl (W.cl YK rfl rfl (Ow u (hV.le e) (by omega)) ?_)))
 rintro _ D ⟨f,i,rfl,v,j⟩
 have x:=e.trans j
 refine Wa (.kK (yI (⟨f,n,i,0,0,0⟩)) Y4 Tn rfl rfl) rfl (W.ef rfl rfl rfl (Ef.jX (len:=1) [_] underlying73 JA rfl (by simp[Value.cells,nX.len]) rfl (by decide) (by decide) ?_))
 intro b y F k l
 have k:jL y b 114 (([⟨f,n,i,0,0,0⟩]).map yI).flatten.toArray:=k
 have z:jO y D.heap.size 114 yI 4 (some ⟨b,0,none⟩) 1 1 ([⟨f,n,i,0,0,0⟩]):=k.pQ F nX rfl rfl (by decide)
 refine Wa (.kK [.slice (some ⟨b,0,none⟩) 1 1] KT z75 rfl rfl) rfl (W.sA xU rfl rfl (d.le (j.trans l)) ?_)
 intro H m o
 have m:jL H t 75 #[.slice (some ⟨b,0,none⟩) 1 1]:=m
 refine Nx (Rt (E.jI rfl (lS rfl m sM (by rfl)) ?_))
 exact⟨_,_,_,_,rfl,((z.cb o (z.rl (by have:=d.lt;have:=j.size;omega))).mono x.size),(((v.le l).cb o (v.rl (by have:=d.lt;omega))).mono e.size),((x.trans l).tb o s B)⟩

theorem Rf (p q:Nat)(w:World):Calls prog 75 #[.int .u64 ((p:Nat):Int),.int .u64 ((q:Nat):Int)] w fun r w'=>∃Ab cb Ak ck,r= .returned (.agg #[.slice Ab 1 cb])/\jO w' w.heap.size 114 yI 4 Ab 1 cb [(⟨Ak,2,ck,0,0,0⟩:yH)]/\jO w' w.heap.size 39 uN 1 Ak 2 ck [p,q]/\Le w w':=by
 refine enter func75 rfl rfl ?_
 have k:=Le.refl w
 refine Sr (W.ef rfl rfl rfl (Ef.jR z75 fun l m u (c:jL m l 75 #[.slice none 0 0]) v=>(Nx (Sr (Wn 2 rfl (W.ef rfl rfl rfl (Ef.jX (len:=2) [_,_] underlying112 Hu rfl (by simp[Value.cells]) rfl (by decide) (by decide) ?_)))))))
 intro n d x e b
 have f:=(k.trans v).trans b
 have e:jL d n 39 (([p,q]).map uN).flatten.toArray:=e
 have y:jO d m.heap.size 39 uN 1 (some ⟨n,0,none⟩) 2 2 ([p,q]):=e.pQ x kU rfl rfl (by decide)
 refine W.cl YA rfl rfl (Uh d y.vec (by omega)) ?_
 rintro _ C ⟨z,A,D,F,rfl,o,s,t⟩
 refine W.sA xU rfl rfl (c.le (b.trans t)) ?_
 intro B i j
 have i:jL B l 75 #[.slice z 1 A]:=i
 refine Nx (Rt (E.jI rfl (lS rfl i sM (by rfl)) ?_))
 exact⟨_,_,_,_,rfl,((o.cb j (o.rl (by have:=c.lt;have:=b.size;omega))).mono f.size),((s.cb j (s.rl (by have:=c.lt;have:=b.size;omega))).mono f.size),((f.trans t).tb j k u)⟩

theorem Li (ch:IC)(w:World):Calls prog 34 #[.agg (tX ch).toArray] w fun r w'=>∃Ab cb Ak ck,r= .returned (.agg #[.slice Ab 1 cb])/\jO w' w.heap.size 114 yI 4 Ab 1 cb [(⟨Ak,2,ck,0,0,0⟩:yH)]/\jO w' w.heap.size 39 uN 1 Ak 2 ck [ch.p0,ch.p5]/\Le w w':=by
 refine enter func34 rfl rfl (Sr (W.ef rfl rfl rfl (Ef.mH rfl fun s t C (u:jL t s 47 (tX ch).toArray) x=>?_)))
 have f:=(Le.refl w).trans x
 refine W.ef rfl rfl rfl (Ef.jR z75 fun i j y (b:jL j i 75 #[.slice none 0 0]) k=>?_)
 have c:=f.trans k
 refine Nx (Sr (Wa (.jE xY rfl) rfl (Wa (.mP 0 underlying42 Bb rfl rfl rfl (by omega)) rfl (Wa (.mg EK rfl) rfl ?_))))
 have l:=(u.le k)
 refine Wr (.jF (v:= .int .u64 ((ch.p0:Nat):Int)) qj rfl l rfl) rfl (Wa (.jE xY rfl) rfl (Wa (.mP 1 underlying42 Bb rfl rfl rfl (by omega)) rfl (Wa (.mg EK rfl) rfl (Wr (.jF (v:= .int .u64 ((ch.p5:Nat):Int)) qj rfl l rfl) rfl (W.cl aa3 rfl rfl (Rf ch.p0 ch.p5 j) ?_)))))
 rintro _ D ⟨z,A,F,H,rfl,m,n,o⟩
 refine W.sA xU rfl rfl (b.le o) ?_
 intro B d e
 have d:jL B i 75 #[.slice z 1 A]:=d
 refine Nx (Rt (E.jI rfl (lS rfl d sM (by rfl)) ?_))
 exact⟨_,_,_,_,rfl,((m.cb e (m.rl (by have:=b.lt;omega))).mono c.size),((n.cb e (n.rl (by have:=b.lt;omega))).mono c.size),((c.trans o).tb e f y)⟩

set_option maxHeartbeats 2000000 in
theorem Rh {A:Option Addr} {n c:Nat} {xs:List (BitVec 8)} (w:World) (hV:Vec w kL 1 A n xs) (hn:n<=100000):Calls prog 80 #[.slice A n c] w fun r w'=>∃A c rs bs ok,r= .returned (.tuple #[.agg #[.slice A rs.length c],.bool ok])/\jO w' w.heap.size 114 yI 4 A rs.length c rs/\nI w' w.heap.size rs bs/\(ok=true->sj bs=true)/\rs.length<=4/\Le w w':=by
 have hl:=hV.1
 refine enter func80 rfl rfl ?_
 have x:=Le.refl w
 refine Sr (W.ef rfl rfl rfl (Ef.jR z75 fun d aD F (aV:jL aD d 75 #[.slice none 0 0]) bA=>?_))
 have R:=x.trans bA
 refine Wn 1 rfl (Nx (WC.scope (Sr (Wn 1 rfl (W.cl Yp rfl rfl (MJ aD (hV.le R) (by omega)) ?_)))))
 rintro _ ed ⟨aE,b,rfl,bB,aF⟩
 have L2:=R.trans aF
 refine Wn 1 rfl (Nx (Sr (W.ef rfl rfl rfl (Ef.jR z75 fun f aW bC (bD:jL aW f 75 #[.slice none 0 0]) aG=>(Nx (Sr (Wn 1 rfl ?_)))))))
 have f4:=(bB.le aG)
 refine W.cl FJ rfl rfl (xf f4) ?_
 rintro _ m ⟨aH,cU,rfl,cV,bE,aI⟩
 have S:=(L2.trans aG).kM aI (fun i hi=>Nat.le_trans R.size (f4.old hi))
 have f6:=(aV.le (aF.trans aG))
 have bF:=(show¬b d from(fun hF=>by have:=f4.old hF;have:=aV.lt;omega))
 have au:=f6.kX aI bF
 have cW:¬b d:=fun hF=>((kG aW b) _ hF).elim bF (fun hz=>by have:=f6.lt;omega)
 have bG:=(show¬b f from(fun hF=>by have:=bB.lt hF;have:=bC;omega))
 have aX:=bD.kX aI bG
 have cX:¬b f:=fun hF=>((kG aW b) _ hF).elim bG (fun hz=>by have:=bD.lt;omega)
 have ee:=cV.1
 refine Wn 1 rfl (Nx (Sq (WC.label (E.jG (Sq (Sr (Wn 1 rfl (Nx (WC.block ?_)))))))))
 refine WC.loop (ι:=Nat×(Option Addr)×Nat×(List yH)×(List Fx)×(List (BitVec 8)×Bool)) (fun⟨k,Al,cl,ro,bs,s⟩=>[(0,.slice A n c),(2,.pointer (some ⟨d,0,none⟩)),(4,.pointer (some ⟨aE,0,none⟩)),(5,.pointer (some ⟨f,0,none⟩)),(6,.int .i64 ((aH:Nat):Int)),(7,.int .i64 ((k:Nat):Int))]) (fun⟨k,Al,cl,ro,bs,s⟩ o=>(k<=4)/\(ro.length=k)/\Le w o/\m.heap.size<=o.heap.size/\jL o d 75 #[.slice none 0 0]/\uK o aD.heap.size aE b s/\jL o f 75 #[.slice Al k cl]/\jO o m.heap.size 114 yI 4 Al k cl ro/\nI o m.heap.size ro bs) (fun⟨k,Al,cl,ro,bs,s⟩=>aH-k) (0,none,0,[],[],cU) ?_ ?_ ?_
 ·exact .of rfl
 ·exact⟨by omega,rfl,S,Nat.le_refl _,au,bE,aX,(jO.nil m m.heap.size 114 yI 4 none),(nI.nil m m.heap.size)⟩
 rintro⟨k,Al,cl,ro,bs,s⟩ o ⟨hk,WL,al,cY,T,bH,aa,ab,aY⟩
 have eg:m.heap.size<=o.heap.size:=by omega
 have aZ:m.heap.size<=o.heap.size:=by omega
 refine Sq (Sr (Wn 3 rfl (Nx ?_)))
 by_cases c0:((k:Nat):Int)<((aH:Nat):Int)
 ·refine Cy rfl (dT c0) (Sn (Sq (WC.block (Sr (W.ef rfl rfl rfl (Ef.jR Tn fun l t av (ac:jL t l 114 #[.slice none 0 0,.int .i64 0,.int .i64 0,.int .u64 (0)]) y=>?_))))))
  have L9:=al.trans y
  refine Nx (Sr (Wn 1 rfl ?_))
  have aJ:=(bH.le y)
  refine W.cl FJ rfl rfl (xf aJ) ?_
  rintro _ a0 ⟨aK,cZ,rfl,c4,c5,u⟩
  have a1:=L9.kM u (fun i hi=>Nat.le_trans R.size (aJ.old hi))
  have a2:=(T.le y)
  have aL:=(aa.le y)
  have aw:=(ab.le y)
  have bI:=(aY.le y)
  have bJ:=(show¬b d from cW)
  have ad:=a2.kX u bJ
  have bK:¬b d:=fun hF=>((kG t b) _ hF).elim bJ (fun hz=>by have:=a2.lt;omega)
  have bL:=(show¬b f from cX)
  have ax:=aL.kX u bL
  have bM:¬b f:=fun hF=>((kG t b) _ hF).elim bL (fun hz=>by have:=aL.lt;omega)
  have bN:=(show∀g,rowOf Al cl=some g->¬b g from(fun g hg hF=>by have:=bE.lt hF;have:=(aw.row hg).1;omega))
  have ay:=aw.kX u bN
  have bO:∀g,rowOf Al cl=some g->¬b g:=fun g hg hF=>((kG t b) _ hF).elim (bN g hg) (fun hz=>by have:=(aw.row hg).2;omega)
  have az:=bI.MK u aJ (by decide) (by decide) (by decide) (by decide)
  have bP:=(show¬b l from(fun hF=>by have:=bH.lt hF;have:=av;omega))
  have bQ:¬b l:=fun hF=>((kG t b) _ hF).elim bP (fun hz=>by have:=ac.lt;omega)
  have eh:=c4.1
  refine Wn 1 rfl (Nx (Sq (Sr (Wn 2 rfl ?_))))
  by_cases bR:((k:Nat):Int)=4
  ·refine Dt bR rfl rfl (Wn 3 rfl (Nx (WC.jS rfl (WC.exit (E.jJ (E.Kl rfl (E.jJ (E.jJ (E.ko (E.jG (Sq (Sr (Wr (.jK sM (by rfl) rfl ax) rfl ?_)))))))))))))
   refine W.cl Gm rfl rfl (uk (c:=cl) a0 ay.vec az.weak (by omega)) ?_
   rintro _ c6 ⟨rfl,ae⟩
   have bS:=a1.trans ae
   refine Wn 1 rfl ?_
   by_cases U:(sj bs)=true
   ·refine Wa (.dec (.move rfl) (congrArg not U)) rfl ?_
    have bT:=(ax.le ae)
    refine Wg (.jK sM (by rfl) rfl bT) rfl ?_
    have a3:=(ay.le ae)
    have bU:=(az.le ae)
    refine W.mY rfl rfl rfl rfl rfl rfl (Ef.call Mh rfl rfl (yJ (c:=cl) c6 a3.vec bU.weak (by omega)) ?_)
    rintro _ c7 ⟨ei,ej,ek,el,rfl,c8,am⟩
    refine⟨_,rfl,?_⟩
    have bV:=bS.trans am
    refine Wn 1 rfl (W.mY rfl rfl rfl rfl rfl rfl (Ef.call Qk rfl rfl (Cz c7 c8.vec (hV.le bV) (by omega)) ?_))
    rintro _ em ⟨c9,rfl,an⟩
    refine⟨_,rfl,?_⟩
    have bW:=bV.trans an
    refine Wn 2 rfl (Nx ?_)
    by_cases V:c9=true
    ·refine Cn rfl (congrArg not V) (Sn (Sr (Wr (.jK sM (by rfl) rfl (bT.le (am.trans an))) rfl ?_)))
     have bX:=(ad.le (ae.trans (am.trans an)))
     refine W.sA xU rfl rfl bX ?_
     intro da a4 a5
     have a4:jL da d 75 #[.slice Al k cl]:=a4
     refine Wn 1 rfl (Nx (Rt (E.Pn (E.mI rfl (lS rfl a4 sM (by rfl)) rfl ?_))))
     subst WL
     exact⟨_,_,_,_,true,rfl,(((a3.le (am.trans an)).cb a5 (a3.rl (by have:=au.lt;omega))).mono S.size),(((bU.le (am.trans an)).rE a5 bX (by decide)).mono S.size),fun _=>by assumption,(by omega),(bW.tb a5 x F)⟩
    refine Cy rfl (congrArg not (Bool.eq_false_iff.2 V)) (Sr (Wa (.kK [.slice none 0 0] KT z75 rfl rfl) rfl (W.sA xU rfl rfl (ad.le (ae.trans (am.trans an))) ?_)))
    intro db a6 dc
    have a6:jL db d 75 #[.slice none 0 0]:=a6
    refine Wn 1 rfl (Nx (Rt (E.jH (E.Pn (E.mI rfl (lS rfl a6 sM (by rfl)) rfl ?_)))))
    exact⟨none,0,[],[],false,rfl,jO.nil _ _ _ _ _ _,nI.nil _ _,fun h=>absurd h (by decide),Nat.zero_le _,(bW.tb dc x F)⟩
   refine Wa (.dec (.move rfl) (congrArg not (Bool.eq_false_iff.2 U))) rfl (Wn 6 rfl (Nx (WC.jS rfl (Sr (Wa (.kK [.slice none 0 0] KT z75 rfl rfl) rfl (W.sA xU rfl rfl (ad.le ae) ?_))))))
   intro dd a7 de
   have a7:jL dd d 75 #[.slice none 0 0]:=a7
   refine Wn 1 rfl (Nx (Rt (E.jH (E.Pn (E.mI rfl (lS rfl a7 sM (by rfl)) rfl ?_)))))
   exact⟨none,0,[],[],false,rfl,jO.nil _ _ _ _ _ _,nI.nil _ _,fun h=>absurd h (by decide),Nat.zero_le _,(bS.tb de x F)⟩
  refine Df bR rfl rfl (Wn 3 rfl (Nx ?_))
  by_cases c1:12<((aK:Nat):Int)
  ·refine Cy rfl (dT c1) (WC.exit (E.jJ (E.Kl rfl (E.jJ (E.jJ (E.ko (E.jG (Sq (Sr (Wr (.jK sM (by rfl) rfl ax) rfl ?_))))))))))
   refine W.cl Gm rfl rfl (uk (c:=cl) a0 ay.vec az.weak (by omega)) ?_
   rintro _ dg ⟨rfl,af⟩
   have bY:=a1.trans af
   refine Wn 1 rfl ?_
   by_cases U:(sj bs)=true
   ·refine Wa (.dec (.move rfl) (congrArg not U)) rfl ?_
    have bZ:=(ax.le af)
    refine Wg (.jK sM (by rfl) rfl bZ) rfl ?_
    have a8:=(ay.le af)
    have b0:=(az.le af)
    refine W.mY rfl rfl rfl rfl rfl rfl (Ef.call Mh rfl rfl (yJ (c:=cl) dg a8.vec b0.weak (by omega)) ?_)
    rintro _ dh ⟨en,eo,ep,er,rfl,di,ao⟩
    refine⟨_,rfl,?_⟩
    have b1:=bY.trans ao
    refine Wn 1 rfl (W.mY rfl rfl rfl rfl rfl rfl (Ef.call Qk rfl rfl (Cz dh di.vec (hV.le b1) (by omega)) ?_))
    rintro _ es ⟨dj,rfl,ap⟩
    refine⟨_,rfl,?_⟩
    have b2:=b1.trans ap
    refine Wn 2 rfl (Nx ?_)
    by_cases V:dj=true
    ·refine Cn rfl (congrArg not V) (Sn (Sr (Wr (.jK sM (by rfl) rfl (bZ.le (ao.trans ap))) rfl ?_)))
     have b3:=(ad.le (af.trans (ao.trans ap)))
     refine W.sA xU rfl rfl b3 ?_
     intro dk a9 ba
     have a9:jL dk d 75 #[.slice Al k cl]:=a9
     refine Wn 1 rfl (Nx (Rt (E.Pn (E.mI rfl (lS rfl a9 sM (by rfl)) rfl ?_))))
     subst WL
     exact⟨_,_,_,_,true,rfl,(((a8.le (ao.trans ap)).cb ba (a8.rl (by have:=au.lt;omega))).mono S.size),(((b0.le (ao.trans ap)).rE ba b3 (by decide)).mono S.size),fun _=>by assumption,(by omega),(b2.tb ba x F)⟩
    refine Cy rfl (congrArg not (Bool.eq_false_iff.2 V)) (Sr (Wa (.kK [.slice none 0 0] KT z75 rfl rfl) rfl (W.sA xU rfl rfl (ad.le (af.trans (ao.trans ap))) ?_)))
    intro dl bb dm
    have bb:jL dl d 75 #[.slice none 0 0]:=bb
    refine Wn 1 rfl (Nx (Rt (E.jH (E.Pn (E.mI rfl (lS rfl bb sM (by rfl)) rfl ?_)))))
    exact⟨none,0,[],[],false,rfl,jO.nil _ _ _ _ _ _,nI.nil _ _,fun h=>absurd h (by decide),Nat.zero_le _,(b2.tb dm x F)⟩
   refine Wa (.dec (.move rfl) (congrArg not (Bool.eq_false_iff.2 U))) rfl (Wn 6 rfl (Nx (WC.jS rfl (Sr (Wa (.kK [.slice none 0 0] KT z75 rfl rfl) rfl (W.sA xU rfl rfl (ad.le af) ?_))))))
   intro dn bc dp
   have bc:jL dn d 75 #[.slice none 0 0]:=bc
   refine Wn 1 rfl (Nx (Rt (E.jH (E.Pn (E.mI rfl (lS rfl bc sM (by rfl)) rfl ?_)))))
   exact⟨none,0,[],[],false,rfl,jO.nil _ _ _ _ _ _,nI.nil _ _,fun h=>absurd h (by decide),Nat.zero_le _,(bY.tb dp x F)⟩
  refine Cn rfl (dF c1) (Sn (Sq (Sr (Wn 2 rfl (Nx (WC.block ?_))))))
  refine WC.loop (ι:=Nat×(Option Addr)×Nat×(List Nat)×(List (BitVec 8)×Bool)) (fun⟨j,Ak,ck,ks,s1⟩=>[(0,.slice A n c),(2,.pointer (some ⟨d,0,none⟩)),(4,.pointer (some ⟨aE,0,none⟩)),(5,.pointer (some ⟨f,0,none⟩)),(6,.int .i64 ((aH:Nat):Int)),(7,.int .i64 ((k:Nat):Int)),(8,.pointer (some ⟨l,0,none⟩)),(27,.int .i64 ((aK:Nat):Int)),(28,.int .i64 ((j:Nat):Int))]) (fun⟨j,Ak,ck,ks,s1⟩ e=>(ks.length=j)/\(∀q∈ks,q<18446744073709551616)/\Le w e/\a0.heap.size<=e.heap.size/\jL e d 75 #[.slice none 0 0]/\uK e aD.heap.size aE b s1/\jL e f 75 #[.slice Al k cl]/\jO e m.heap.size 114 yI 4 Al k cl ro/\nI e m.heap.size ro bs/\jL e l 114 #[.slice Ak j ck,.int .i64 0,.int .i64 0,.int .u64 (0)]/\jO e t.heap.size 39 uN 1 Ak j ck ks) (fun⟨j,Ak,ck,ks,s1⟩=>aK-j) (0,none,0,[],cZ) ?_ ?_ ?_
  ·exact .of rfl
  ·exact⟨rfl,(fun q hq=>by cases hq),a1,Nat.le_refl _,ad,c5,ax,ay,az,(ac.kX u bP),((jO.nil t t.heap.size 39 uN 1 none).kX u (show∀g,rowOf none 0=some g->¬b g from(fun g hg hF=>by have:=aJ.lt hF;have:=((jO.nil t t.heap.size 39 uN 1 none).row hg).1;omega)))⟩
  rintro⟨j,Ak,ck,ks,s1⟩ e ⟨hkj,hks,b4,b5,bd,aA,be,bf,b6,bg,aM⟩
  have et:m.heap.size<=e.heap.size:=Nat.le_trans aZ (by have:=y.size;have:=u.size;omega)
  have dq:m.heap.size<=e.heap.size:=Nat.le_trans aZ (by have:=y.size;have:=u.size;omega)
  have dr:t.heap.size<=e.heap.size:=by have:=u.size;omega
  refine Sr (Wn 1 rfl (Nx (Sq ?_)))
  by_cases c2:((j:Nat):Int)<((aK:Nat):Int)
  ·refine Cy rfl (dT c2) (Sn (Sq (WC.block (WC.xO (fun ds w'=>Le w w'/\jL w' l 114 #[.slice Ak j ck,.int .i64 0,.int .i64 0,.int .u64 (0)]) [0,1,2,3,4,5,6,7] mixed (by kernel_rfl) fun ds B=>?_))))
   have b7:=b4.trans B
   have b8:=(bg.le B)
   refine⟨⟨b7,b8⟩,?_⟩
   refine GR.any rfl rfl (.jE wY rfl) rfl rfl rfl (GR.rd rfl rfl (fun w' hs=> .jF (v:= .slice Ak j ck) Gh rfl hs.2 rfl) rfl rfl rfl (GR.any rfl rfl (.move rfl) rfl rfl rfl ?_))
   have aN:=(aA.le B)
   refine GR.ef rfl rfl rfl rfl rfl (Ef.call Qf rfl rfl (Fg aN) ?_)
   rintro _ du ⟨aO,dw,rfl,eu,ew,bh,H⟩
   refine⟨_,rfl,?_⟩
   have b9:=b7.kM H (fun i hi=>Nat.le_trans R.size (aN.old hi))
   have ca:=(aM.le B)
   have bi:=b8.kX H (show¬b l from bQ)
   have cc:=ca.kX H (show∀g,rowOf Ak ck=some g->¬b g from(aN.rV ca (by decide) (by decide)))
   refine⟨fun _=>⟨b9,bi⟩,?_⟩
   refine GR.ef rfl rfl rfl rfl rfl (Ef.jX (len:=1) [_] underlying112 Hu rfl (by simp[Value.cells]) rfl (by decide) (by decide) ?_)
   intro cd ce dx aP C
   have cf:=b9.trans C
   have aP:jL ce cd 39 (([aO]).map uN).flatten.toArray:=aP
   have ex:jO ce du.heap.size 39 uN 1 (some ⟨cd,0,none⟩) 1 1 ([aO]):=aP.pQ dx kU rfl rfl (by decide)
   have cg:=(bi.le C)
   refine⟨fun _=>⟨cf,cg⟩,?_⟩
   have ah:=(cc.le C)
   refine GR.ef rfl rfl rfl rfl rfl (Ef.xw (a:=aO) underlying112 Hu underlying112 kU rfl ah rfl aP (by omega) (by unfold maxLen;omega) (by have:=dr;have:=B.size;have:=H.size;have:=C.size;omega) ?_)
   intro ci cj ey cm X ez
   refine noT (by kernel_rfl) (GR.any rfl rfl (.jE wY rfl) rfl rfl rfl ?_)
   have co:=(cg.ch X (ah.rl (by have:=ac.lt;omega)))
   refine GR.kP rfl rfl rfl rfl (Ef.store P7 rfl rfl co (by first|decide|(simp;done)) rfl ?_)
   intro dy bj Y
   have bj:jL dy l 114 #[.slice ci (j+1) cj,.int .i64 0,.int .i64 0,.int .u64 (0)]:=bj
   refine noT (by kernel_rfl) (GR.nil (E.jZ (E.jG (WC.region (Wa (.add rfl rfl (by omega)) rfl (Wn 1 rfl (W.nil ?_)))))))
   have dz:=(((((bd.le B).kX H (show¬b d from bK)).le C).ch X (ah.rl (by have:=a2.lt;omega))).cn Y (by have:=T.lt;omega))
   have dA:=(((bh.le C).ch X (fun q hqq hF=>(bh.rV cc (by decide) (by decide)) q hqq hF)).ch Y (fun q hqq hF=>by cases hqq;exact(bh.qE bi (by decide) (by decide)) hF))
   have dB:=(((((be.le B).kX H (show¬b f from bM)).le C).ch X (ah.rl (by have:=aL.lt;omega))).cn Y (by have:=aa.lt;omega))
   have dC:=(((((bf.le B).kX H (show∀g,rowOf Al cl=some g->¬b g from bO)).le C).ch X (Apart.symm (fun q h1 h2=>by have:=(aw.row h1).2;have:=(ah.row h2).1;omega))).cb Y (ab.rn (by omega)))
   have dD:=(((((b6.le B).MK H aN (by decide) (by decide) (by decide) (by decide)).le C).Zk bI X (fun q hq=>by have:=(ah.row hq).1;omega)).rE Y co (by decide))
   have dE:=(cm.cb Y (cm.rl (by have:=ac.lt;omega)))
   refine E.again (j+1,ci,cj,(ks++[aO]),dw) (.of rfl) ?_ ?_
   ·exact⟨by rw[List.length_append,hkj];rfl,fun q hq=>(List.mem_append.1 hq).elim (hks q) (fun hq=>by rw[List.mem_singleton.1 hq];omega),((cf.kI X (fun q hq=>Nat.le_trans L9.size (ah.row hq).1)).tb Y al av),by have:=b5;have:=B.size;have:=H.size;have:=C.size;have:=X.size;have:=Y.size;omega,dz,dA,dB,dC,dD,bj,dE⟩
   first|omega|(simp only[];omega)
  refine Cn rfl (dF c2) (WC.exit (E.jJ (E.jJ (E.ko (E.jG (Sr (Wn 1 rfl (W.cl FJ rfl rfl (xf aA) ?_))))))))
  rintro _ aB ⟨D,eA,rfl,dG,bk,I⟩
  have cp:=(show¬b d from bK)
  have cq:=bd.kX I cp
  have dH:¬b d:=fun hF=>((kG e b) _ hF).elim cp (fun hz=>by have:=bd.lt;omega)
  have cr:=(show¬b f from bM)
  have cs:=be.kX I cr
  have dI:¬b f:=fun hF=>((kG e b) _ hF).elim cr (fun hz=>by have:=be.lt;omega)
  have ct:=(show∀g,rowOf Al cl=some g->¬b g from bO)
  have cu:=bf.kX I ct
  have dJ:∀g,rowOf Al cl=some g->¬b g:=fun g hg hF=>((kG e b) _ hF).elim (ct g hg) (fun hz=>by have:=(bf.row hg).2;omega)
  have cv:=(show¬b l from bQ)
  have cw:=bg.kX I cv
  have dK:¬b l:=fun hF=>((kG e b) _ hF).elim cv (fun hz=>by have:=bg.lt;omega)
  have cx:=(show∀g,rowOf Ak ck=some g->¬b g from(aA.rV aM (by decide) (by decide)))
  have cy:=aM.kX I cx
  have dL:∀g,rowOf Ak ck=some g->¬b g:=fun g hg hF=>((kG e b) _ hF).elim (cx g hg) (fun hz=>by have:=(aM.row hg).2;omega)
  have eB:=dG.1
  refine Wn 1 rfl (W.cl FJ rfl rfl (xf bk) ?_)
  rintro _ eC ⟨J,eD,rfl,dM,bl,K⟩
  have cz:=(show¬b d from dH)
  have dN:¬b d:=fun hF=>((kG aB b) _ hF).elim cz (fun hz=>by have:=cq.lt;omega)
  have cA:=(show¬b f from dI)
  have dO:¬b f:=fun hF=>((kG aB b) _ hF).elim cA (fun hz=>by have:=cs.lt;omega)
  have cB:=(show∀g,rowOf Al cl=some g->¬b g from dJ)
  have dP:∀g,rowOf Al cl=some g->¬b g:=fun g hg hF=>((kG aB b) _ hF).elim (cB g hg) (fun hz=>by have:=(cu.row hg).2;omega)
  have cC:=(show¬b l from dK)
  have aQ:=cw.kX K cC
  have dQ:¬b l:=fun hF=>((kG aB b) _ hF).elim cC (fun hz=>by have:=cw.lt;omega)
  have cD:=(show∀g,rowOf Ak ck=some g->¬b g from dL)
  have bm:=cy.kX K cD
  have dR:∀g,rowOf Ak ck=some g->¬b g:=fun g hg hF=>((kG aB b) _ hF).elim (cD g hg) (fun hz=>by have:=(cy.row hg).2;omega)
  have eE:=dM.1
  refine Wa (.jE H7 rfl) rfl (W.kP rfl rfl (Ef.store kz rfl rfl aQ (by first|decide|(simp;done)) rfl ?_))
  intro dS aR L
  have aR:jL dS l 114 #[.slice Ak j ck,.int .i64 ((D:Nat):Int),.int .i64 0,.int .u64 (0)]:=aR
  refine Wa (.jE H8 rfl) rfl (W.kP rfl rfl (Ef.store kz rfl rfl aR (by first|decide|(simp;done)) rfl ?_))
  intro dU bn N
  have bn:jL dU l 114 #[.slice Ak j ck,.int .i64 ((D:Nat):Int),.int .i64 ((J:Nat):Int),.int .u64 (0)]:=bn
  refine Nx (Sr (Wn 1 rfl ?_))
  have bo:=((bl.ch L (fun q hqq hF=>by cases hqq;exact(bl.qE aQ (by decide) (by decide)) hF)).ch N (fun q hqq hF=>by cases hqq;exact(bl.qE aQ (by decide) (by decide)) hF))
  refine W.cl Qf rfl rfl (Fg bo) ?_
  rintro _ eF ⟨Z,dV,rfl,eG,eH,aS,O⟩
  have cE:=(((cs.kX K cA).cn L (by have:=aa.lt;omega)).cn N (by have:=aa.lt;omega)).kX O (show¬b f from dO)
  have cF:=(((cu.kX K cB).cb L (ab.rn (by omega))).cb N (ab.rn (by omega))).kX O (show∀g,rowOf Al cl=some g->¬b g from dP)
  have bp:=bn.kX O (show¬b l from dQ)
  have aT:=((bm.cb L (bm.rl (by have:=ac.lt;omega))).cb N (bm.rl (by have:=ac.lt;omega))).kX O (show∀g,rowOf Ak ck=some g->¬b g from dR)
  refine Wa (.jE Dz rfl) rfl (W.kP rfl rfl (Ef.store sZ rfl rfl bp (by first|decide|(simp;done)) rfl ?_))
  intro cG bq P
  have bq:jL cG l 114 #[.slice Ak j ck,.int .i64 ((D:Nat):Int),.int .i64 ((J:Nat):Int),.int .u64 ((Z:Nat):Int)]:=bq
  refine Nx (WC.region (Wa (.jE vG rfl) rfl ?_))
  have cH:=(cE.cn P (by have:=aa.lt;omega))
  refine Wr (.jF (v:= .slice Al k cl) HV rfl cH rfl) rfl (Wr (.jK P8 (by rfl) rfl bq) rfl ?_)
  refine W.ef rfl rfl rfl (Ef.jX (len:=1) [_] underlying73 JA rfl (by simp[Value.cells,nX.len]) rfl (by decide) (by decide) ?_)
  intro cI cJ dW aU Q
  have aU:jL cJ cI 114 (([(⟨Ak,j,ck,((D:Nat):Int),((J:Nat):Int),Z⟩:yH)]).map yI).flatten.toArray:=aU
  have eI:jO cJ cG.heap.size 114 yI 4 (some ⟨cI,0,none⟩) 1 1 ([(⟨Ak,j,ck,((D:Nat):Int),((J:Nat):Int),Z⟩:yH)]):=aU.pQ dW nX rfl rfl (by decide)
  have aC:=((cF.cb P (ab.rn (by omega))).le Q)
  refine W.ef rfl rfl rfl (Ef.xw (a:=(⟨Ak,j,ck,((D:Nat):Int),((J:Nat):Int),Z⟩:yH)) underlying73 JA underlying73 nX rfl aC rfl aU (by omega) (by unfold maxLen;omega) (by have:=dq;have:=I.size;have:=K.size;have:=L.size;have:=N.size;have:=O.size;have:=P.size;have:=Q.size;omega) ?_)
  intro cK cL eJ cM ai eK
  refine Wa (.jE vG rfl) rfl ?_
  have cN:=((cH.le Q).ch ai (aC.rl (by have:=aX.lt;omega)))
  refine W.kP rfl rfl (Ef.store VF rfl rfl cN (by first|decide|(simp;done)) rfl ?_)
  intro dX bt aj
  have bt:jL dX f 75 #[.slice cK (k+1) cL]:=bt
  have dY:=((((((((b4.kM I (fun i hi=>Nat.le_trans R.size (aA.old hi))).kM K (fun i hi=>Nat.le_trans R.size (bk.old hi))).tb L al av).tb N al av).kM O (fun i hi=>Nat.le_trans R.size (bo.old hi))).tb P al av).trans Q).kI ai (fun q hq=>Nat.le_trans S.size (aC.row hq).1)).tb aj L2 bC
  refine W.nil (E.jZ (E.jG (WC.region ?_)))
  have dZ:=(((((((((b6.MK I aA (by decide) (by decide) (by decide) (by decide)).MK K bk (by decide) (by decide) (by decide) (by decide)).rE L aQ (by decide)).rE N aR (by decide)).MK O bo (by decide) (by decide) (by decide) (by decide)).rE P bp (by decide)).le Q).U8 ai aC (by decide)).rE aj cN (by decide))
  have d0:=((((aT.cb P (aT.rl (by have:=ac.lt;omega))).le Q).ch ai (fun q h1 h2=>by have:=(aw.row h1).2;have:=(aT.row h2).1;omega)).cb aj (aT.rl (by have:=aL.lt;omega)))
  have zpu:=dZ.push (r:=(⟨Ak,j,ck,((D:Nat):Int),((J:Nat):Int),Z⟩:yH)) (z:=⟨ks,((D:Nat):Int),((J:Nat):Int),Z⟩) ⟨rfl,rfl,rfl,by omega,d0.mono (by have:=aZ;have:=y.size;omega),hks⟩
  refine Wn 1 rfl (Wa (.add rfl rfl (by omega)) rfl (Wn 1 rfl (W.nil ?_)))
  have d1:=((((((((cq.kX K cz).cn L (by have:=T.lt;omega)).cn N (by have:=T.lt;omega)).kX O (show¬b d from dN)).cn P (by have:=T.lt;omega)).le Q).ch ai (aC.rl (by have:=au.lt;omega))).cn aj (by have:=aV.lt;have:=aF.size;omega))
  have d2:=((((aS.ch P (fun q hqq hF=>by cases hqq;exact(aS.qE bp (by decide) (by decide)) hF)).le Q).ch ai (fun q hqq hF=>(aS.rV cF (by decide) (by decide)) q hqq hF)).ch aj (fun q hqq hF=>by cases hqq;exact(aS.qE cE (by decide) (by decide)) hF))
  have d3:=(cM.cb aj (cM.rl (by have:=aX.lt;omega)))
  refine E.again (k+1,cK,cL,(ro++[(⟨Ak,j,ck,((D:Nat):Int),((J:Nat):Int),Z⟩:yH)]),(bs++[⟨ks,((D:Nat):Int),((J:Nat):Int),Z⟩]),dV) (.of rfl) ?_ ?_
  ·exact⟨by omega,by rw[List.length_append,WL];rfl,dY,by have:=cY;have:=I.size;have:=K.size;have:=L.size;have:=N.size;have:=O.size;have:=P.size;have:=Q.size;have:=ai.size;have:=aj.size;have:=b5;have:=bA.size;have:=aF.size;have:=aG.size;have:=aI.size;have:=y.size;have:=u.size;omega,d1,d2,bt,d3,zpu⟩
  first|omega|(simp only[];omega)
 refine Cn rfl (dF c0) (WC.exit (E.jJ (E.jJ (E.ko (E.jG (Sq (Sr (Wr (.jK sM (by rfl) rfl aa) rfl ?_))))))))
 refine W.cl Gm rfl rfl (uk (c:=cl) o ab.vec aY.weak (by omega)) ?_
 rintro _ d4 ⟨rfl,ak⟩
 have cO:=al.trans ak
 refine Wn 1 rfl ?_
 by_cases U:(sj bs)=true
 ·refine Wa (.dec (.move rfl) (congrArg not U)) rfl ?_
  have cP:=(aa.le ak)
  refine Wg (.jK sM (by rfl) rfl cP) rfl ?_
  have bu:=(ab.le ak)
  have cQ:=(aY.le ak)
  refine W.mY rfl rfl rfl rfl rfl rfl (Ef.call Mh rfl rfl (yJ (c:=cl) d4 bu.vec cQ.weak (by omega)) ?_)
  rintro _ d5 ⟨eL,eM,eN,eO,rfl,d6,aq⟩
  refine⟨_,rfl,?_⟩
  have cR:=cO.trans aq
  refine Wn 1 rfl (W.mY rfl rfl rfl rfl rfl rfl (Ef.call Qk rfl rfl (Cz d5 d6.vec (hV.le cR) (by omega)) ?_))
  rintro _ eP ⟨d7,rfl,ar⟩
  refine⟨_,rfl,?_⟩
  have cS:=cR.trans ar
  refine Wn 2 rfl (Nx ?_)
  by_cases V:d7=true
  ·refine Cn rfl (congrArg not V) (Sn (Sr (Wr (.jK sM (by rfl) rfl (cP.le (aq.trans ar))) rfl ?_)))
   have cT:=(T.le (ak.trans (aq.trans ar)))
   refine W.sA xU rfl rfl cT ?_
   intro d8 bv bw
   have bv:jL d8 d 75 #[.slice Al k cl]:=bv
   refine Wn 1 rfl (Nx (Rt (E.Pn (E.mI rfl (lS rfl bv sM (by rfl)) rfl ?_))))
   subst WL
   exact⟨_,_,_,_,true,rfl,(((bu.le (aq.trans ar)).cb bw (bu.rl (by have:=au.lt;omega))).mono S.size),(((cQ.le (aq.trans ar)).rE bw cT (by decide)).mono S.size),fun _=>by assumption,(by omega),(cS.tb bw x F)⟩
  refine Cy rfl (congrArg not (Bool.eq_false_iff.2 V)) (Sr (Wa (.kK [.slice none 0 0] KT z75 rfl rfl) rfl (W.sA xU rfl rfl (T.le (ak.trans (aq.trans ar))) ?_)))
  intro d9 bx ea
  have bx:jL d9 d 75 #[.slice none 0 0]:=bx
  refine Wn 1 rfl (Nx (Rt (E.jH (E.Pn (E.mI rfl (lS rfl bx sM (by rfl)) rfl ?_)))))
  exact⟨none,0,[],[],false,rfl,jO.nil _ _ _ _ _ _,nI.nil _ _,fun h=>absurd h (by decide),Nat.zero_le _,(cS.tb ea x F)⟩
 refine Wa (.dec (.move rfl) (congrArg not (Bool.eq_false_iff.2 U))) rfl (Wn 6 rfl (Nx (WC.jS rfl (Sr (Wa (.kK [.slice none 0 0] KT z75 rfl rfl) rfl (W.sA xU rfl rfl (T.le ak) ?_))))))
 intro eb bz ec
 have bz:jL eb d 75 #[.slice none 0 0]:=bz
 refine Wn 1 rfl (Nx (Rt (E.jH (E.Pn (E.mI rfl (lS rfl bz sM (by rfl)) rfl ?_)))))
 exact⟨none,0,[],[],false,rfl,jO.nil _ _ _ _ _ _,nI.nil _ _,fun h=>absurd h (by decide),Nat.zero_le _,(cO.tb ec x F)⟩
end Go.Proofs.YtcaehidaejhdfaaGreat

namespace Go.Proofs.YtcaehidaejhdfaaGreat
open Tryz
open Go Go.Sx Go.wI Go.Num Go.Ac Go.rZ Go.Lsp Go.Fv Go.Dk
set_option maxRecDepth 20000
def Wj (k:Cw):Value:= .agg (BX k).toArray
theorem Ri (a:Cw):((BX a).toArray.toList.drop 0).take 32=a.id.1.map lD:=by
  have h:=sD a.id.2
  have hl:(a.id.1.map lD).length=32:=by rw[List.length_map,a.id.2]
  simp only[BX,h,List.drop_zero]
  exact List.take_left' hl
theorem Rj (a:Cw):(BX a).toArray[32]? =some (.int .i64 a.no):=by
  have h:=sD a.id.2
  have hl:(a.id.1.map lD).length=32:=by rw[List.length_map,a.id.2]
  simp only[BX,h,List.getElem?_toArray]
  rw[List.getElem?_append_right (by omega),hl]
  rfl
theorem Wl {d:Nat}(a b:Cw):Ad prog (d+3) 37 (Wj a) (Wj b) (decide (a=b)):=by
  have h:=Ad.struct (P:=prog) (d:=d+2) (t:=37) (BX a).toArray (BX b).toArray [(0,.agg (a.id.1.map lD).toArray,.agg (b.id.1.map lD).toArray,decide (a.id.1=b.id.1)),(32,.int .i64 a.no,.int .i64 b.no,decide (a.no=b.no))] (by kernel_rfl) (by kernel_rfl) (by
    rw[show(prog.fieldsOf 37)=_ from(by unfold Program.fieldsOf;rw[underlying37])]
    exact⟨by decide,rfl,fun w=>Ce _ sV (by rw[List.length_map,a.id.2]) (Ri a) w,fun w=>Ce _ sV (by rw[List.length_map,b.id.2]) (Ri b) w,Ad.bytes _ _ underlying23 vJ underlying5 a.id.2 b.id.2,
      by decide,rfl,fun w=>mr j5 (Rj a) w,fun w=>mr j5 (Rj b) w,Ad.int (P:=prog) _ _ underlying3,trivial⟩)
  have e:(([(0,.agg (a.id.1.map lD).toArray,.agg (b.id.1.map lD).toArray,decide (a.id.1=b.id.1)),(32,.int .i64 a.no,.int .i64 b.no,decide (a.no=b.no))]:List (Nat×Value×Value×Bool)).all fun k=>k.2.2.2)=decide (a=b):=by
    obtain⟨⟨c,f⟩,i⟩:=a
    obtain⟨⟨j,l⟩,m⟩:=b
    rw[Bool.eq_iff_iff]
    simp
  rw[e]at h
  exact h
theorem Rk (b:Bool)(k:Cw)(w:World):∀m:Nat,(Instr.checkKey b (m+3) 37 (Wj k)).run prog w= .ok () w:=by
  intro m
  have hi:∀(v:Int) (w:World),(Instr.checkKey b (m+2) 3 (.int .i64 v)).run prog w= .ok () w:=fun v w=>by unfold Instr.checkKey;simp[run_underlying underlying3]
  have c:∀(v:BitVec 8) (w:World),(Instr.checkKey b (m+1) 5 (lD v)).run prog w= .ok () w:=fun v w=>by unfold Instr.checkKey lD;simp[run_underlying underlying5]
  have hs:∀w:World,(Go.sizeOf 5).run prog w= .ok 1 w:=vJ.run
  have hp:∀i,i<32->∀w:World,(part 5 (k.id.1.map lD).toArray i).run prog w= .ok (lD (k.id.1.getD i 0)) w:=fun i hi w=>mr IB (Ja k.id.1 (by rw[k.id.2];exact hi)) w
  have hh:∀w:World,(Instr.checkKey b (m+2) 23 (.agg (k.id.1.map lD).toArray)).run prog w= .ok () w:=fun w=>by
    unfold Instr.checkKey
    simp only[Sem.run_bind,run_underlying underlying23,Result.andThen_ok]
    simp[-List.map_toArray,Std.Legacy.Range.forIn_eq_forIn_range',List.range',hp,c,hs]
  have d:∀w:World,(part 23 (BX k).toArray 0).run prog w= .ok (.agg (k.id.1.map lD).toArray) w:=fun w=>Ce _ sV (by rw[List.length_map,k.id.2]) (Ri k) w
  have e:∀w:World,(part 3 (BX k).toArray 32).run prog w= .ok (.int .i64 k.no) w:=fun w=>mr j5 (Rj k) w
  unfold Instr.checkKey
  simp only[Sem.run_bind,run_underlying underlying37,Result.andThen_ok,Wj]
  simp[-List.map_toArray,d,e,hi,hh]
theorem kop:wP prog 37 Wj:=wP.struct underlying37 (fun b k w=>Rk b k w 9997) (fun k=>⟨_,rfl⟩) (fun a b=>Wl (d:=9997) a b)
def hadB (ins:List pY)(i:Nat)(o:Cw):Bool:=(List.range i).any fun j=>decide ((ins.getD j jP).op=o)
def Fh (ins:List pY)(i:Nat):Bool:= !hadB ins i (ins.getD i jP).op&&decide (0<=(ins.getD i jP).op.no)&&decide ((ins.getD i jP).op.no<64)&&Ik (ins.getD i jP)
def JV (ins:List pY):Bool:=(List.range ins.length).all (Fh ins)
def FN (ins:List pY)(os:List nC)(note:Int):Bool:=decide (1<=ins.length/\ins.length<=64/\os.length<=64/\0<=note)&&JV ins&&(xe 0 os).isSome
theorem Rl (ins:List pY)(k:Nat)(o:Cw):hadB ins (k+1) o=(hadB ins k o||decide ((ins.getD k jP).op=o)):=by
  unfold hadB
  rw[List.range_succ,List.any_append]
  simp
theorem BA {x:Option Bool}{b:Bool}(h:x=if b=true then some true else none):x.getD false=b:=by
  subst h;cases b<;>rfl
theorem Rm {x:Option Bool}{b:Bool}(h:x=if b=true then some true else none)(hq:¬x.getD false=true):x=none:=by
  subst h;cases b
  · rfl
  · exact absurd rfl hq
theorem BB {ins:List pY}{k:Nat}(h:Fh ins k=true):¬hadB ins k (ins.getD k jP).op=true/\0<=(ins.getD k jP).op.no/\(ins.getD k jP).op.no<64/\Ik (ins.getD k jP)=true:=by
  unfold Fh at h
  simp only[Bool.and_eq_true,decide_eq_true_eq,Bool.not_eq_true']at h
  exact⟨by rw[h.1.1.1];decide,h.1.1.2,h.1.2,h.2⟩
theorem Wm {ins:List pY}{k:Nat}(h1:¬hadB ins k (ins.getD k jP).op=true)(h2:¬(ins.getD k jP).op.no<0)(h3:¬(ins.getD k jP).op.no≥64)(h4:Ik (ins.getD k jP)=true):Fh ins k=true:=by
  unfold Fh
  simp only[Bool.and_eq_true,decide_eq_true_eq,Bool.not_eq_true']
  exact⟨⟨⟨Bool.eq_false_iff.2 h1,by omega⟩,by omega⟩,h4⟩
theorem Rn {ins:List pY}{k ck:Nat}{l:List (Nat×Cw×Bool)}(h:∀o,jW o l=if hadB ins k o=true then some true else none)(hn:jW (ins.getD k jP).op l=none):∀o,jW o (l++[(ck,(ins.getD k jP).op,true)])=if hadB ins (k+1) o=true then some true else none:=fun o=>by
  rw[ui hn,Rl,h o]
  by_cases e:o=(ins.getD k jP).op
  · subst e;simp
  · rw[if_neg e]
    have:decide ((ins.getD k jP).op=o)=false:=decide_eq_false (fun q=>e q.symm)
    rw[this,Bool.or_false]
theorem Ui {ins:List pY}{k:Nat}(hk:k<ins.length)(h:Fh ins k=false):JV ins=false:=by
  unfold JV
  rw[List.all_eq_false]
  exact⟨k,List.mem_range.2 hk,by rw[h];decide⟩
theorem Ro {ins:List pY}(h:∀j,j<ins.length->Fh ins j=true):JV ins=true:=by
  unfold JV
  rw[List.all_eq_true]
  exact fun j hj=>h j (List.mem_range.1 hj)
theorem DI {ins:List pY}(h:JV ins=true){k:Nat}(hk:k<ins.length):0<=(ins.getD k jP).op.no/\(ins.getD k jP).op.no<64/\0<=(ins.getD k jP).br/\(ins.getD k jP).br<4/\(ins.getD k jP).sN<=12:=by
  unfold JV at h
  rw[List.all_eq_true]at h
  have:=h k (List.mem_range.2 hk)
  unfold Fh Ik at this
  simp only[Bool.and_eq_true,decide_eq_true_eq]at this
  omega
theorem GH:∀(s:Int) (l:List nC) (o:nC),xe s (l++[o])=(xe s l).bind fun t=>if(pG t o.am).2&&sj o.bs then some (pG t o.am).1 else none
  |s,[],o=>by simp[xe]
  |s,x::l,o=>by
    simp only[List.cons_append,xe]
    split
    · exact GH _ l o
    · rfl
theorem CB {s t:Int}{os:List nC}{k:Nat}(hk:k<os.length)(h:xe s (os.take k)=some t):xe s (os.take (k+1))=if(pG t (os.getD k oO).am).2&&sj (os.getD k oO).bs then some (pG t (os.getD k oO).am).1 else none:=by
  have e:os.take (k+1)=os.take k++[os.getD k oO]:=by
    rw[List.take_add_one]
    simp[List.getD,hk]
  rw[e,GH,h]
  rfl
theorem OA {s:Int}{os:List nC}{k:Nat}(h:xe s (os.take k)=none):xe s os=none:=by
  have:∀(s:Int) (a b:List nC),xe s a=none->xe s (a++b)=none:=by
    intro s a
    induction a generalizing s with
    |nil=>intro b h;cases h
    |cons x a ih=>
      intro b h
      simp only[List.cons_append,xe]at h ⊢
      split
      · rename_i hc;rw[if_pos hc]at h;exact ih _ _ h
      · rfl
  have e:=this s (os.take k) (os.drop k) h
  rwa [List.take_append_drop]at e
theorem JW {s t:Int}:∀{os:List nC},xe s os=some t->∀k,k<os.length->0<=(os.getD k oO).am/\(os.getD k oO).am<=1125899906842624/\sj (os.getD k oO).bs=true
  |[],_,k,hk=>absurd hk (Nat.not_lt_zero _)
  |o::os,h,k,hk=>by
    simp only[xe]at h
    split at h
    · rename_i hc
      rw[Bool.and_eq_true]at hc
      cases k with
      |zero=>
        refine⟨?_,?_,hc.2⟩
        all_goals
          have h1:=hc.1
          show _<=_
          simp only[List.getD_cons_zero]
          unfold pG at h1
          split at h1
          · rename_i h2
            unfold uS l8 at h2
            simp at h2
            omega
          · cases h1
      |succ k=>simpa using JW h k (by simpa using hk)
    · cases h
end Go.Proofs.YtcaehidaejhdfaaGreat

namespace Go.Proofs.YtcaehidaejhdfaaGreat
open Tryz
open Go Go.Sx Go.wI Go.Num Go.Ac Go.rZ Go.Lsp Go.Fv Go.Dk
set_option maxRecDepth 20000
def BC (br:Int)(n:Nat):Bool:=decide (0<=br)&&decide (br<4)&&decide (n<=12)
theorem Ip {ins:List pY}{os:List nC}{note:Int}(h:¬(1<=ins.length/\ins.length<=64/\os.length<=64/\0<=note)):FN ins os note=false:=by
  unfold FN;rw[decide_eq_false h];rfl
theorem ML {ins:List pY}{os:List nC}{note:Int}{k:Nat}(hk:k<ins.length)(h:Fh ins k=false):FN ins os note=false:=by
  unfold FN;rw[Ui hk h,Bool.and_false];rfl
theorem Rp {ins:List pY}{os:List nC}{note:Int}{k:Nat}(h:xe 0 (os.take k)=none):FN ins os note=false:=by
  unfold FN;rw[OA h];exact Bool.and_false _
theorem Wo {ins:List pY}{os:List nC}{note t:Int}(h:1<=ins.length/\ins.length<=64/\os.length<=64/\0<=note)(hi:∀j,j<ins.length->Fh ins j=true)(ho:xe 0 os=some t):FN ins os note=true:=by
  unfold FN;rw[decide_eq_true h,Ro hi,ho];rfl
theorem Uj (br:Int)(Aw:Option Addr)(nw cw sec:Nat)(w:World):Calls prog 122 #[.agg #[.int .i64 br,.slice Aw nw cw,.int .u64 ((sec:Nat):Int)]] w fun r w'=>r= .returned (.bool (BC br nw))/\Le w w':=by
 refine enter func122 rfl rfl (Sr (W.ef rfl rfl rfl (Ef.mH rfl fun f i k (d:jL i f 109 #[.int .i64 br,.slice Aw nw cw,.int .u64 ((sec:Nat):Int)]) j=>?_)))
 have e:=(Le.refl w).trans j
 refine Wn 1 rfl (Nx (Sr (Wa (.jE Dy rfl) rfl (Wr (.jF (v:= .int .i64 br) j5 rfl d rfl) rfl (Wn 1 rfl ?_)))))
 by_cases b:0<=br
 ·refine Dt b rfl rfl (Wg (Any.rd (.jE Dy rfl) _) rfl (Wg (.jF (v:= .int .i64 br) j5 rfl d rfl) rfl (Wn 2 rfl ?_)))
  by_cases c:br<4
  ·refine Dt c rfl rfl (Wg (Any.rd (.jE Bd rfl) _) rfl (Wg (.jF (v:= .slice Aw nw cw) Mg rfl d rfl) rfl (Wg (.len underlying107 rfl) rfl (Wn 3 rfl (Nx (Rt (E.jI rfl rfl ?_)))))))
   exact⟨(by first|rfl|(simp[BC,b,c];done)|(simp[BC,b,c];omega)|(simp[BC,b,c];split<;>first|(exfalso;omega)|(simp;done)|(simp;omega))|(rw[Bool.eq_iff_iff];simp[BC];omega)),e⟩
  refine Df c rfl rfl (Wn 6 rfl (Nx (Rt (E.jI rfl rfl ?_))))
  exact⟨(by first|rfl|(simp[BC,b,c];done)|(simp[BC,b,c];omega)|(simp[BC,b,c];split<;>first|(exfalso;omega)|(simp;done)|(simp;omega))|(rw[Bool.eq_iff_iff];simp[BC];omega)),e⟩
 refine Df b rfl rfl (Wn 11 rfl (Nx (Rt (E.jI rfl rfl ?_))))
 exact⟨(by first|rfl|(simp[BC,b];done)|(simp[BC,b];omega)|(simp[BC,b];split<;>first|(exfalso;omega)|(simp;done)|(simp;omega))|(rw[Bool.eq_iff_iff];simp[BC];omega)),e⟩

set_option maxHeartbeats 2000000 in
theorem xg {Ai Ao:Option Addr} {ni ci qV co:Nat} {note:Int} {ins:List pY} {rF:List uO} {os:List nC} (w:World) (hI:Vec w xy 36 Ai ni ins) (hO:Vec w xC 2 Ao qV rF) (hU:oF w 0 rF os):Calls prog 85 #[.agg #[.slice Ai ni ci,.slice Ao qV co,.int .i64 (note)]] w fun r w'=>r= .returned (.bool (FN ins os note))/\Le w w':=by
 have Zl:=hI.1
 have WM:=hO.1
 have WN:=hU.1
 refine enter func85 rfl rfl (Sr (W.ef rfl rfl rfl (Ef.mH rfl fun B ak aC (d:jL ak B 61 #[.slice Ai ni ci,.slice Ao qV co,.int .i64 (note)]) al=>?_)))
 have e:=(Le.refl w).trans al
 refine Wn 1 rfl (Nx (Sq (Sr (Wa (.jE qB rfl) rfl (Wr (.jF (v:= .slice Ai ni ci) Co rfl d rfl) rfl (Wr (.len underlying59 rfl) rfl (Wn 1 rfl ?_)))))))
 by_cases J:((ni:Nat):Int)<1
 ·refine Dt J rfl rfl (Wn 16 rfl (Nx (WC.jS rfl (Sr (Wn 1 rfl (Nx (Rt (E.jH (E.jI rfl rfl ?_)))))))))
  exact⟨rB (Ip (by omega)).symm,e⟩
 refine Df J rfl rfl (Wg (Any.rd (.jE qB rfl) _) rfl (Wg (.jF (v:= .slice Ai ni ci) Co rfl d rfl) rfl (Wg (.len underlying59 rfl) rfl (Wn 2 rfl ?_))))
 by_cases K:64<((ni:Nat):Int)
 ·refine Dt K rfl rfl (Wn 10 rfl (Nx (WC.jS rfl (Sr (Wn 1 rfl (Nx (Rt (E.jH (E.jI rfl rfl ?_)))))))))
  exact⟨rB (Ip (by omega)).symm,e⟩
 refine Df K rfl rfl (Wg (Any.rd (.jE qC rfl) _) rfl (Wg (.jF (v:= .slice Ao qV co) sW rfl d rfl) rfl (Wg (.len underlying31 rfl) rfl (Wn 2 rfl ?_))))
 by_cases L:64<((qV:Nat):Int)
 ·refine Dt L rfl rfl (Wn 4 rfl (Nx (WC.jS rfl (Sr (Wn 1 rfl (Nx (Rt (E.jH (E.jI rfl rfl ?_)))))))))
  exact⟨rB (Ip (by omega)).symm,e⟩
 refine Df L rfl rfl (Wg (Any.rd (.jE KR rfl) _) rfl (Wg (.jF (v:= .int .i64 note) j5 rfl d rfl) rfl (Wn 2 rfl (Nx ?_))))
 by_cases N:note<0
 ·refine Cy rfl (dT N) (Sr (Wn 1 rfl (Nx (Rt (E.jH (E.jI rfl rfl ?_))))))
  exact⟨rB (Ip (by omega)).symm,e⟩
 refine Cn rfl (dF N) (Sn (Sr (W.ef rfl rfl rfl (Ef.xQ Wj Value.bool fun O an ao ap P=>(Wn 1 rfl (Nx (Sq (Sr (Wa (.jE qB rfl) rfl ?_)))))))))
 have Q:=(d.le P)
 refine Wr (.jF (v:= .slice Ai ni ci) Co rfl Q rfl) rfl (Wr (.len underlying59 rfl) rfl (Wn 1 rfl (Nx (WC.block ?_))))
 refine WC.loop (ι:=Nat×(List (Nat×Cw×Bool))×Nat) (fun⟨k,lh,ch⟩=>[(1,.pointer (some ⟨B,0,none⟩)),(3,.map (some O)),(33,.slice Ai ni ci),(34,.int .i64 ((ni:Nat):Int)),(35,.int .i64 ((k:Nat):Int))]) (fun⟨k,lh,ch⟩ f=>(k<=ni)/\(∀o,jW o lh=if hadB ins k o=true then some true else none)/\(∀j,j<k->Fh ins j=true)/\Le w f/\an.heap.size<=f.heap.size/\jL f B 61 #[.slice Ai ni ci,.slice Ao qV co,.int .i64 (note)]/\kH f Wj Value.bool O lh ch) (fun⟨k,lh,ch⟩=>ni-k) (0,[],0) ?_ ?_ ?_
 ·exact .of rfl
 ·exact⟨Nat.zero_le _,(fun _=>rfl),(fun j hj=>absurd hj (Nat.not_lt_zero _)),(e.trans P),Nat.le_refl _,Q,ap⟩
 rintro⟨k,lh,ch⟩ f ⟨hk,hm,hq,l,aq,C,R⟩
 refine Sr (Wn 1 rfl (Nx (Sq ?_)))
 by_cases S:((k:Nat):Int)<((ni:Nat):Int)
 ·refine Cy rfl (dT S) (Sn (Sq (WC.block (Sr (Wa (.lL k underlying59 C9 rfl rfl (hI.isSome kS (by omega)) rfl (by omega)) rfl (Wr (.tH P6 rfl (hI.le l) kS (lF ins jP (by omega))) rfl (W.ef rfl rfl rfl (Ef.jR KM ?_))))))))
  intro T ar au D m
  have D:jL ar T 111 (xy jP).toArray:=D
  refine W.kP rfl rfl (Ef.storeAll C9 (by rfl) rfl rfl D (by simp only[List.size_toArray,kS.len]) (kS.one (ins.getD k jP)) ?_)
  intro U b n
  have b:jL U T 111 (xy (ins.getD k jP)).toArray:=b
  have s:=(l.trans m).tb n l au
  refine Nx (Sq (Sr (Wn 1 rfl (Wa (.jE yE rfl) rfl (Wr (.mV (BX ((ins.getD k jP).op)) Ny rfl (by decide) rfl b rfl) rfl ?_)))))
  have V:=((R.le m).cn n (by have:=R.lt;omega))
  refine Wr (.as (.tQ (key:=((ins.getD k jP).op)) underlying202 kop z4 rfl rfl V) (Td _)) rfl ?_
  by_cases X:((jW ((ins.getD k jP).op) lh).getD false)=true
  ·refine Wa (.dec (.move rfl) X) rfl (Wn 17 rfl (Nx (WC.jS rfl (Sr (Wn 1 rfl (Nx (Rt (E.jH (E.j4 (E.jH (E.jH (E.j4 (E.jH (E.jI rfl rfl ?_))))))))))))))
   exact⟨rB (ML (k:=k) (by omega) (Bool.eq_false_iff.2 fun hb=>by obtain⟨e1,e2,e3,e4⟩:=BB hb;rw[<-BA (hm _)]at e1;unfold Ik at e4;first|omega|exact e1 (by assumption)|exact absurd e4 (by assumption))).symm,s⟩
  refine Wa (.dec (.move rfl) (Bool.eq_false_iff.2 X)) rfl (Wg (Any.rd (.jE yE rfl) _) rfl (Wg (Any.rd (.jE Cs rfl) _) rfl (Wg (.jF (v:= .int .i64 ((ins.getD k jP).op.no)) j5 rfl b rfl) rfl (Wn 2 rfl ?_))))
  by_cases Y:((ins.getD k jP).op.no)<0
  ·refine Dt Y rfl rfl (Wn 11 rfl (Nx (WC.jS rfl (Sr (Wn 1 rfl (Nx (Rt (E.jH (E.j4 (E.jH (E.jH (E.j4 (E.jH (E.jI rfl rfl ?_))))))))))))))
   exact⟨rB (ML (k:=k) (by omega) (Bool.eq_false_iff.2 fun hb=>by obtain⟨e1,e2,e3,e4⟩:=BB hb;rw[<-BA (hm _)]at e1;unfold Ik at e4;first|omega|exact e1 (by assumption)|exact absurd e4 (by assumption))).symm,s⟩
  refine Df Y rfl rfl (Wg (Any.rd (.jE yE rfl) _) rfl (Wg (Any.rd (.jE Cs rfl) _) rfl (Wg (.jF (v:= .int .i64 ((ins.getD k jP).op.no)) j5 rfl b rfl) rfl (Wn 2 rfl ?_))))
  by_cases Z:64<=((ins.getD k jP).op.no)
  ·refine Dt Z rfl rfl (Wn 5 rfl (Nx (WC.jS rfl (Sr (Wn 1 rfl (Nx (Rt (E.jH (E.j4 (E.jH (E.jH (E.j4 (E.jH (E.jI rfl rfl ?_))))))))))))))
   exact⟨rB (ML (k:=k) (by omega) (Bool.eq_false_iff.2 fun hb=>by obtain⟨e1,e2,e3,e4⟩:=BB hb;rw[<-BA (hm _)]at e1;unfold Ik at e4;first|omega|exact e1 (by assumption)|exact absurd e4 (by assumption))).symm,s⟩
  refine Df Z rfl rfl (Wg (Any.rd (.jE yF rfl) _) rfl (Wg (.mV [.int .i64 ((ins.getD k jP).br),.slice ((ins.getD k jP).sA) ((ins.getD k jP).sN) ((ins.getD k jP).sC),.int .u64 (((ins.getD k jP).sec:Nat):Int)] XU rfl (by decide) rfl b rfl) rfl (W.mY rfl rfl rfl rfl rfl rfl (Ef.call YC rfl rfl (Uj ((ins.getD k jP).br) ((ins.getD k jP).sA) ((ins.getD k jP).sN) ((ins.getD k jP).sC) ((ins.getD k jP).sec) U) ?_))))
  rintro _ aD ⟨rfl,i⟩
  refine⟨_,rfl,?_⟩
  have L7:=s.trans i
  refine Wn 2 rfl (Nx ?_)
  by_cases c2:(BC ((ins.getD k jP).br) ((ins.getD k jP).sN))=true
  ·refine Cn rfl (congrArg not c2) (Sn (WC.region (Wn 1 rfl (Wa (.jE yE rfl) rfl (Wr (.mV (BX ((ins.getD k jP).op)) Ny rfl (by decide) rfl (b.le i) rfl) rfl ?_)))))
   have hnn:=Rm (hm (ins.getD k jP).op) (by assumption)
   refine W.kP rfl rfl (Ef.yB (key:=((ins.getD k jP).op)) (u:=true) underlying202 kop rfl rfl rfl (V.le i) hnn fun aE av F=>(W.nil (E.jZ (E.jG (WC.region (Wa (.add rfl rfl (by omega)) rfl (Wn 1 rfl (W.nil ?_))))))))
   have aw:=((((C.le m).cn n (by have:=C.lt;omega)).le i).cn F (by have:=d.lt;omega))
   refine E.again (k+1,(lh++[(ch,((ins.getD k jP).op),true)]),(ch+1)) (.of rfl) ?_ ?_
   ·exact⟨by omega,Rn hm hnn,(fun j hj=>by rcases Nat.lt_or_ge j k with h|h;exact hq j h;rw[show j=k by omega];exact Wm (by rw[<-BA (hm _)];assumption) (by assumption) (by assumption) (by unfold Ik;assumption)),(L7.tb F e ao),by have:=aq;have:=m.size;have:=n.size;have:=i.size;have:=F.size;omega,aw,av⟩
   first|omega|(simp only[];omega)
  refine Cy rfl (congrArg not (Bool.eq_false_iff.2 c2)) (Sr (Wn 1 rfl (Nx (Rt (E.jH (E.j4 (E.jH (E.jH (E.j4 (E.jH (E.jI rfl rfl ?_)))))))))))
  exact⟨rB (ML (k:=k) (by omega) (Bool.eq_false_iff.2 fun hb=>by obtain⟨e1,e2,e3,e4⟩:=BB hb;rw[<-BA (hm _)]at e1;unfold Ik at e4;first|omega|exact e1 (by assumption)|exact absurd e4 (by assumption))).symm,L7⟩
 refine Cn rfl (dF S) (WC.exit (E.jJ (E.jJ (E.ko (E.jG (Sr (Wn 2 rfl (Nx (Sq (Sr (Wa (.jE qC rfl) rfl (Wr (.jF (v:= .slice Ao qV co) sW rfl C rfl) rfl (Wr (.len underlying31 rfl) rfl (Wn 1 rfl (Nx (WC.block ?_))))))))))))))))
 refine WC.loop (ι:=Nat×Int) (fun⟨k2,t⟩=>[(6,.int .i64 t),(66,.slice Ao qV co),(67,.int .i64 ((qV:Nat):Int)),(68,.int .i64 ((k2:Nat):Int))]) (fun⟨k2,t⟩ H=>(k2<=qV)/\(xe 0 (os.take k2)=some t)/\Le w H/\f.heap.size<=H.heap.size) (fun⟨k2,t⟩=>qV-k2) (0,0) ?_ ?_ ?_
 ·exact .of rfl
 ·exact⟨Nat.zero_le _,rfl,l,Nat.le_refl _⟩
 rintro⟨k2,t⟩ H ⟨aF,ht,x,ax⟩
 refine Sr (Wn 1 rfl (Nx (Sq ?_)))
 by_cases c3:((k2:Nat):Int)<((qV:Nat):Int)
 ·refine Cy rfl (dT c3) (Sn (Sq (WC.block (Sr ?_))))
  have y:=hU.2 k2 (by omega)
  have ya:=y.am;have yf:=y.few
  obtain⟨ry,aa,ab⟩:=y.rows
  have yk:=aa.1;have yl:=ab.1
  refine Wa (.lL k2 underlying31 Cq rfl rfl (hO.isSome kV (by omega)) rfl (by omega)) rfl (Wr (.tH Tk rfl (hO.le x) kV (lF rF kQ (by omega))) rfl (W.ef rfl rfl rfl (Ef.jR z77 fun ac ay az (aA:jL ay ac 77 #[.int .i64 0,.slice none 0 0]) ad=>(W.kP rfl rfl (Ef.storeAll Cq (by rfl) rfl rfl aA (by rfl) (kV.one (rF.getD k2 kQ)) ?_)))))
  intro ae z af
  have z:jL ae ac 77 (xC (rF.getD k2 kQ)).toArray:=z
  refine Nx (Sr (Wn 1 rfl (Wa (.jE Ct rfl) rfl (Wr (.jF (v:= .int .i64 ((rF.getD k2 kQ).am)) j5 rfl z rfl) rfl (W.cl VI rfl rfl (Ia t ((rF.getD k2 kQ).am) ae) ?_)))))
  rintro _ aB ⟨rfl,I⟩
  have A:=((x.trans ad).tb af x az).trans I
  refine Wn 5 rfl (Nx (Sr (Wn 2 rfl ?_)))
  by_cases ah:((pG t ((rF.getD k2 kQ).am)).2)=true
  ·refine Wa (.dec (.move rfl) (congrArg not ah)) rfl (Wg (Any.rd (.jE zy rfl) _) rfl (Wg (.mV [.slice ((rF.getD k2 kQ).bA) ((rF.getD k2 kQ).bN) ((rF.getD k2 kQ).bC)] sM rfl (by decide) rfl (z.le I) rfl) rfl (W.mY rfl rfl rfl rfl rfl rfl (Ef.call Gm rfl rfl (uk (c:=((rF.getD k2 kQ).bC)) aB (aa.le A) (ab.le A) (by omega)) ?_))))
   rintro _ aG ⟨rfl,ai⟩
   refine⟨_,rfl,?_⟩
   have aj:=A.trans ai
   refine Wn 2 rfl (Nx ?_)
   by_cases c4:(sj ((os.getD k2 oO).bs))=true
   ·refine Cn rfl (congrArg not c4) (WC.skip (E.jZ (E.jG (WC.region (Wa (.add rfl rfl (by omega)) rfl (Wn 1 rfl (W.nil (E.again (k2+1,(pG t (rF.getD k2 kQ).am).1) (.of rfl) ?_ ?_))))))))
    ·exact⟨by omega,(by rw[CB (by omega) ht,<-ya];exact if_pos (by simp_all)),aj,by have:=ax;have:=ad.size;have:=af.size;have:=I.size;have:=ai.size;omega⟩
    first|omega|(simp only[];omega)
   refine Cy rfl (congrArg not (Bool.eq_false_iff.2 c4)) (Sr (Wn 1 rfl (Nx (Rt (E.j4 (E.jH (E.jH (E.j4 (E.jH (E.jI rfl rfl ?_))))))))))
   exact⟨rB (Rp (k:=k2+1) (by rw[CB (by omega) ht,<-ya];exact if_neg (by simp_all))).symm,aj⟩
  refine Wa (.dec (.move rfl) (congrArg not (Bool.eq_false_iff.2 ah))) rfl (Wn 5 rfl (Nx (WC.jS rfl (Sr (Wn 1 rfl (Nx (Rt (E.j4 (E.jH (E.jH (E.j4 (E.jH (E.jI rfl rfl ?_)))))))))))))
  exact⟨rB (Rp (k:=k2+1) (by rw[CB (by omega) ht,<-ya];exact if_neg (by simp_all))).symm,A⟩
 refine Cn rfl (dF c3) (WC.exit (E.jJ (E.jJ (E.ko (E.jG (Sr (Wn 1 rfl (Nx (Rt (E.jI rfl rfl ?_))))))))))
 exact⟨rB (Wo (by omega) (fun j hj=>hq j (by omega)) (by rw[List.take_of_length_le (by omega)]at ht;exact ht)).symm,x⟩
end Go.Proofs.YtcaehidaejhdfaaGreat

namespace Go.Proofs.YtcaehidaejhdfaaGreat
open Tryz
open Go Go.Sx Go.wI Go.Num Go.Ac Go.rZ Go.Lsp Go.Fv Go.Dk
set_option maxRecDepth 20000
theorem Zm (a:pY):((xy a).toArray.toList.drop 0).take 32=a.op.id.1.map lD:=by
  have h:=sD a.op.id.2
  have hl:(a.op.id.1.map lD).length=32:=by rw[List.length_map,a.op.id.2]
  simp only[xy,BX,h,List.drop_zero,List.append_assoc]
  exact List.take_left' hl
def RY (x:pY):List (BitVec 8):=x.op.id.1++mG x.op.no.toNat
def JX (ins:List pY)(m:Nat):List (BitVec 8):=mG ins.length++(ins.map RY).flatten++mG m
theorem Rq {ins:List pY}{k:Nat}(hk:k<ins.length):((ins.take (k+1)).map RY).flatten=((ins.take k).map RY).flatten++(ins.getD k jP).op.id.1++mG (ins.getD k jP).op.no.toNat:=by
  have e:ins.take (k+1)=ins.take k++[ins.getD k jP]:=by
    rw[List.take_add_one]
    simp[List.getD,hk]
  rw[e]
  simp[RY]
theorem BD {ins:List pY}{os:List nC}{note:Int}(h:FN ins os note=true):(1<=ins.length/\ins.length<=64/\os.length<=64/\0<=note)/\JV ins=true/\∃t,xe 0 os=some t:=by
  unfold FN at h
  simp only[Bool.and_eq_true,decide_eq_true_eq]at h
  exact⟨h.1.1,h.1.2,Option.isSome_iff_exists.1 h.2⟩
set_option maxHeartbeats 2000000 in
theorem Fj {Ai Ao:Option Addr} {ni ci qV co:Nat} {note:Int} {ins:List pY} {rF:List uO} {os:List nC} (w:World) (hI:Vec w xy 36 Ai ni ins) (hO:Vec w xC 2 Ao qV rF) (hU:oF w 0 rF os) (hnt:note<=9223372036854775807) (hx:FN ins os note=true):Calls prog 86 #[.agg #[.slice Ai ni ci,.slice Ao qV co,.int .i64 (note)]] w fun r w'=>∃A' c' ys,r= .returned (.slice A' ys.length c')/\jO w' w.heap.size 5 kL 1 A' ys.length c' ys/\ys.length<=60000/\(∃tl,ys=JX ins os.length++tl)/\Le w w':=by
 have Zl:=hI.1
 have WM:=hO.1
 have WN:=hU.1
 obtain⟨aV,hxi,ts,hxs⟩:=BD hx
 have hrn:=lI ni (by omega);have hro:=lI qV (by omega);have hrt:=lI note.toNat (by omega)
 refine enter func86 rfl rfl (Sr (W.ef rfl rfl rfl (Ef.mH rfl fun l z aW (Q:jL z l 61 #[.slice Ai ni ci,.slice Ao qV co,.int .i64 (note)]) ac=>(Wn 1 rfl (Nx (Sr (Wa (.jE qB rfl) rfl (Wr (.jF (v:= .slice Ai ni ci) Co rfl Q rfl) rfl ?_))))))))
 refine Wr (.len underlying59 rfl) rfl (W.cl EJ rfl rfl (uG ni (by omega) z (Vec.nil _ _ _ _) (by first|omega|(simp only[List.length_append,List.length_nil];omega))) ?_)
 rintro _ ad ⟨ae,af,rfl,ah,F⟩
 refine Wn 1 rfl (Nx (Sq (Sr (Wa (.jE qB rfl) rfl ?_))))
 have R:=(Q.le F)
 refine Wr (.jF (v:= .slice Ai ni ci) Co rfl R rfl) rfl (Wr (.len underlying59 rfl) rfl (Wn 1 rfl (Nx (WC.block ?_))))
 refine WC.loop (ι:=Nat×(List (BitVec 8))×(Option Addr)×Nat) (fun⟨k,xs,Aa,ca⟩=>[(1,.pointer (some ⟨l,0,none⟩)),(3,.slice Aa xs.length ca),(13,.slice Ai ni ci),(14,.int .i64 ((ni:Nat):Int)),(15,.int .i64 ((k:Nat):Int))]) (fun⟨k,xs,Aa,ca⟩ b=>(k<=ni)/\(xs.length<=10+42*k)/\(xs=mG ni++((ins.take k).map RY).flatten)/\Le w b/\ad.heap.size<=b.heap.size/\jL b l 61 #[.slice Ai ni ci,.slice Ao qV co,.int .i64 (note)]/\jO b z.heap.size 5 kL 1 Aa xs.length ca xs) (fun⟨k,xs,Aa,ca⟩=>ni-k) (0,([]++mG ni),ae,af) ?_ ?_ ?_
 ·exact .of rfl
 ·exact⟨Nat.zero_le _,(by simp only[List.nil_append];omega),(by simp),(((Le.refl w).trans ac).trans F),Nat.le_refl _,R,ah⟩
 rintro⟨k,xs,Aa,ca⟩ b ⟨hk,hxl,hxe,A,ai,B,H⟩
 have aX:z.heap.size<=b.heap.size:=by have:=F.size;omega
 refine Sr (Wn 1 rfl (Nx (Sq ?_)))
 by_cases S:((k:Nat):Int)<((ni:Nat):Int)
 ·refine Cy rfl (dT S) (Sn (Sq (WC.block (Sr ?_))))
  have aY:=DI hxi (k:=k) (by omega)
  have hid:=(ins.getD k jP).op.id.2
  have WL:=lI (ins.getD k jP).op.no.toNat (by omega)
  refine Wa (.lL k underlying59 C9 rfl rfl (hI.isSome kS (by omega)) rfl (by omega)) rfl (Wr (.tH P6 rfl (hI.le A) kS (lF ins jP (by omega))) rfl (W.ef rfl rfl rfl (Ef.jR KM fun T aj ak (al:jL aj T 111 (xy jP).toArray) m=>(W.kP rfl rfl (Ef.storeAll C9 (by rfl) rfl rfl al (by simp only[List.size_toArray,kS.len]) (kS.one (ins.getD k jP)) ?_)))))
  intro an I n
  have I:jL an T 111 (xy (ins.getD k jP)).toArray:=I
  refine Nx (WC.draw [0,1,2,3,5,6,7,4,8,9] mixed (by kernel_rfl) fun w5 e=>(Gn 1 rfl (Ga rfl (.jE yE rfl) (Ga rfl (.jE VR rfl) ?_))))
  have U:=(I.le e)
  refine Gd rfl (.mV ((ins.getD k jP).op.id.1.map lD) sV (by rw[List.length_map,(ins.getD k jP).op.id.2]) (by decide) rfl U (Zm (ins.getD k jP))) ?_
  refine Ga rfl (.jE yE rfl) (Ga rfl (.jE Cs rfl) (Gd rfl (.jF (v:= .int .i64 ((ins.getD k jP).op.no)) j5 rfl U rfl) ?_))
  have f8:=(((H.le m).cb n (H.rn (by omega))).le e)
  refine G.ef rfl rfl rfl rfl rfl (Ef.call YD rfl rfl (TN ((ins.getD k jP).op.id.1) (ins.getD k jP).op.id.2 w5 f8.vec (by first|omega|(simp only[List.length_append,List.length_nil];omega))) ?_)
  rintro _ ao ⟨aZ,ap,rfl,aq,o⟩
  refine⟨_,rfl,?_⟩
  refine⟨fun _=>o,?_⟩
  refine G.ef rfl rfl rfl rfl rfl (Ef.call EJ rfl rfl (by have q:=uG ((ins.getD k jP).op.no).toNat (by omega) (c:=ap) ao aq.vec (by first|omega|(simp only[List.length_append,List.length_nil];omega));rw[Int.toNat_of_nonneg (by omega)]at q;exact q) ?_)
  rintro _ a0 ⟨ar,au,rfl,av,C⟩
  refine⟨_,rfl,?_⟩
  refine⟨fun _=>C,?_⟩
  refine Gn 1 rfl (G.nil (E.jZ (E.jG (WC.region (Wa (.add rfl rfl (by omega)) rfl (Wn 1 rfl (W.nil ?_)))))))
  have aw:=(((B.le m).cn n (by have:=B.lt;omega)).le (e.trans (o.trans C)))
  refine E.again (k+1,((xs++(ins.getD k jP).op.id.1)++mG ((ins.getD k jP).op.no).toNat),ar,au) (.of rfl) ?_ ?_
  ·exact⟨by omega,(by simp only[List.length_append];omega),(by rw[Rq (by omega),hxe];simp only[List.append_assoc]),(((((A.trans m).tb n A ak).trans e).trans o).trans C),by have:=ai;have:=m.size;have:=n.size;have:=e.size;have:=o.size;have:=C.size;omega,aw,(av.mono (by have:=m.size;have:=n.size;have:=e.size;have:=o.size;omega))⟩
  first|omega|(simp only[];omega)
 refine Cn rfl (dF S) (WC.exit (E.jJ (E.jJ (E.ko (E.jG (Sr (Wn 1 rfl (Wa (.jE qC rfl) rfl (Wr (.jF (v:= .slice Ao qV co) sW rfl B rfl) rfl (Wr (.len underlying31 rfl) rfl (W.cl EJ rfl rfl (uG qV (by omega) b H.vec (by first|omega|(simp only[List.length_append,List.length_nil];omega))) ?_)))))))))))
 rintro _ ax ⟨ay,az,rfl,aA,J⟩
 have aB:=A.trans J
 refine Wn 1 rfl (Nx (Sq (Sr (Wa (.jE qC rfl) rfl ?_))))
 have V:=(B.le J)
 refine Wr (.jF (v:= .slice Ao qV co) sW rfl V rfl) rfl (Wr (.len underlying31 rfl) rfl (Wn 1 rfl (Nx (WC.block ?_))))
 refine WC.loop (ι:=Nat×(List (BitVec 8))×(Option Addr)×Nat) (fun⟨j,zs,Ab,cb⟩=>[(1,.pointer (some ⟨l,0,none⟩)),(3,.slice Ab zs.length cb),(35,.slice Ao qV co),(36,.int .i64 ((qV:Nat):Int)),(37,.int .i64 ((j:Nat):Int))]) (fun⟨j,zs,Ab,cb⟩ d=>(j<=qV)/\(zs.length<=2708+640*j)/\(∃tl,zs=JX ins os.length++tl)/\Le w d/\ax.heap.size<=d.heap.size/\jL d l 61 #[.slice Ai ni ci,.slice Ao qV co,.int .i64 (note)]/\jO d b.heap.size 5 kL 1 Ab zs.length cb zs) (fun⟨j,zs,Ab,cb⟩=>qV-j) (0,(xs++mG qV),ay,az) ?_ ?_ ?_
 ·exact .of rfl
 ·exact⟨Nat.zero_le _,(by simp only[List.length_append];omega),⟨[],by rw[hxe,List.take_of_length_le (by omega),List.append_nil];unfold JX;rw[Zl,WN.symm.trans WM]⟩,aB,Nat.le_refl _,V,aA⟩
 rintro⟨j,zs,Ab,cb⟩ d ⟨hj,hzl,Zn,s,aC,K,L⟩
 have a1:b.heap.size<=d.heap.size:=by have:=J.size;omega
 refine Sr (Wn 1 rfl (Nx (Sq ?_)))
 by_cases X:((j:Nat):Int)<((qV:Nat):Int)
 ·refine Cy rfl (dT X) (Sn (Sq (WC.block (Sr ?_))))
  have y:=hU.2 j (by omega)
  have ya:=y.am;have yf:=y.few
  obtain⟨ry,Y,Z⟩:=y.rows
  have yk:=Y.1;have yl:=Z.1
  have a2:=JW hxs j (by omega)
  have hra:=lI (rF.getD j kQ).am.toNat (by omega)
  refine Wa (.lL j underlying31 Cq rfl rfl (hO.isSome kV (by omega)) rfl (by omega)) rfl (Wr (.tH Tk rfl (hO.le s) kV (lF rF kQ (by omega))) rfl (W.ef rfl rfl rfl (Ef.jR z77 fun aa aD aE (aF:jL aD aa 77 #[.int .i64 0,.slice none 0 0]) t=>(W.kP rfl rfl (Ef.storeAll Cq (by rfl) rfl rfl aF (by rfl) (kV.one (rF.getD j kQ)) ?_)))))
  intro aG N u
  have N:jL aG aa 77 (xC (rF.getD j kQ)).toArray:=N
  refine Nx (WC.draw [0,1,2,4,5,3,6,7,8] mixed (by kernel_rfl) fun aH f=>(Gn 1 rfl (Ga rfl (.jE Ct rfl) ?_)))
  have ab:=(N.le f)
  refine Gd rfl (.jF (v:= .int .i64 ((rF.getD j kQ).am)) j5 rfl ab rfl) (Ga rfl (.jE zy rfl) (Gd rfl (.mV [.slice ((rF.getD j kQ).bA) ((rF.getD j kQ).bN) ((rF.getD j kQ).bC)] sM rfl (by decide) rfl ab rfl) ?_))
  have aI:=(((L.le t).cb u (L.rn (by omega))).le f)
  refine G.ef rfl rfl rfl rfl rfl (Ef.call EJ rfl rfl (by have q:=uG ((rF.getD j kQ).am).toNat (by omega) (c:=cb) aH aI.vec (by first|omega|(simp only[List.length_append,List.length_nil];omega));rw[Int.toNat_of_nonneg (by omega)]at q;exact q) ?_)
  rintro _ aJ ⟨a3,a4,rfl,aK,x⟩
  refine⟨_,rfl,?_⟩
  refine⟨fun _=>x,?_⟩
  have O:=(((s.trans t).tb u s aE).trans f).trans x
  refine G.ef rfl rfl rfl rfl rfl (Ef.call Mh rfl rfl (yJ (c:=((rF.getD j kQ).bC)) aJ (Y.le O) (Z.le O) (by omega)) ?_)
  rintro _ aL ⟨a5,a6,P,a7,rfl,aM,i⟩
  refine⟨_,rfl,?_⟩
  refine⟨fun _=>i,?_⟩
  refine G.ef rfl rfl rfl rfl rfl (Ef.call YE rfl rfl (TP aL (aK.le i).vec (by first|omega|(simp only[List.length_append,List.length_nil];omega)) aM.vec (by first|omega|(simp only[List.length_append,List.length_nil];omega))) ?_)
  rintro _ a8 ⟨aN,aO,rfl,aP,D⟩
  refine⟨_,rfl,?_⟩
  refine⟨fun _=>D,?_⟩
  have aQ:=(O.trans i).trans D
  refine Gn 1 rfl (G.nil (E.jZ (E.jG (WC.region (Wa (.add rfl rfl (by omega)) rfl (Wn 1 rfl (W.nil ?_)))))))
  have aR:=(((K.le t).cn u (by have:=K.lt;omega)).le (f.trans (x.trans (i.trans D))))
  refine E.again (j+1,[(zs++mG ((rF.getD j kQ).am).toNat),mG P.length,P].flatten,aN,aO) (.of rfl) ?_ ?_
  ·exact⟨by omega,(by have:=lI P.length (by omega);simp only[List.flatten_cons,List.flatten_nil,List.append_nil,List.length_append];omega),(by obtain⟨tl,ht⟩:=Zn;rw[ht];simp only[List.flatten_cons,List.flatten_nil,List.append_nil,List.append_assoc];exact⟨_,rfl⟩),aQ,by have:=aC;have:=t.size;have:=u.size;have:=f.size;have:=x.size;have:=i.size;have:=D.size;omega,aR,(aP.mono (by have:=t.size;have:=u.size;have:=f.size;have:=x.size;have:=i.size;omega))⟩
  first|omega|(simp only[];omega)
 refine Cn rfl (dF X) (WC.exit (E.jJ (E.jJ (E.ko (E.jG (Sr (Wn 1 rfl (Wa (.jE KR rfl) rfl (Wr (.jF (v:= .int .i64 note) j5 rfl K rfl) rfl (W.cl EJ rfl rfl (by have q:=uG (note).toNat (by omega) (c:=cb) d L.vec (by first|omega|(simp only[List.length_append,List.length_nil];omega));rw[Int.toNat_of_nonneg (by omega)]at q;exact q) ?_))))))))))
 rintro _ a9 ⟨ba,bb,rfl,aS,aT⟩
 have aU:=s.trans aT
 refine Wn 1 rfl (Nx (Rt (E.jI rfl rfl ?_)))
 obtain⟨tl,ht⟩:=Zn
 exact⟨_,_,_,rfl,(aS.mono s.size),(by simp only[List.length_append];omega),⟨tl++mG note.toNat,by rw[ht,List.append_assoc]⟩,aU⟩

set_option maxHeartbeats 2000000 in
theorem Lj {Ai Ao:Option Addr} {ni ci qV co:Nat} {note:Int} {ins:List pY} {rF:List uO} {os:List nC} (w:World) (hI:Vec w xy 36 Ai ni ins) (hO:Vec w xC 2 Ao qV rF) (hU:oF w 0 rF os) (hnt:note<=9223372036854775807) (hs:∀k,k<ins.length->(ins.getD k jP).sN=0):Calls prog 36 #[.agg #[.slice Ai ni ci,.slice Ao qV co,.int .i64 (note)]] w fun r w'=>∃A' c' ys,r= .returned (.slice A' ys.length c')/\jO w' w.heap.size 5 kL 1 A' ys.length c' ys/\ys.length<=70000/\((FN ins os note=true->∃tl,ys=JX ins os.length++tl)/\(¬FN ins os note=true->ys=[]))/\Le w w':=by
 have Zl:=hI.1
 have WM:=hO.1
 have WN:=hU.1
 refine enter func36 rfl rfl (Sr (W.ef rfl rfl rfl (Ef.mH rfl fun I y aj (z:jL y I 61 #[.slice Ai ni ci,.slice Ao qV co,.int .i64 (note)]) J=>?_)))
 have j:=(Le.refl w).trans J
 refine Wn 1 rfl (Nx (Sq (Sr (Wr (.jK ql (by rfl) rfl z) rfl ?_))))
 refine W.cl Tw rfl rfl (xg (ci:=ci) (co:=co) (note:=note) y (hI.le j) (hO.le j) (hU.le j)) ?_
 rintro _ o ⟨rfl,A⟩
 have b:=j.trans A
 refine Wn 1 rfl (Nx ?_)
 by_cases hx:(FN ins os note)=true
 ·refine Cn rfl (congrArg not hx) ?_
  obtain⟨ak,hxi,ts,hxs⟩:=BD hx
  have hx':=hx
  refine Sn (Sr ?_)
  have B:=(z.le A)
  refine Wr (.jK ql (by rfl) rfl B) rfl ?_
  refine W.cl Yq rfl rfl (Fj (ci:=ci) (co:=co) (note:=note) o (hI.le b) (hO.le b) (hU.le b) (by omega) (by assumption)) ?_
  rintro _ K ⟨L,N,O,rfl,P,Q,R,s⟩
  refine Wn 1 rfl (Nx (Sq (Sr (Wa (.jE qB rfl) rfl (Wr (.jF (v:= .slice Ai ni ci) Co rfl (B.le s) rfl) rfl (Wr (.len underlying59 rfl) rfl (Wn 1 rfl (Nx (WC.block (WC.loop (ι:=Nat×(List (BitVec 8))×(Option Addr)×Nat) (fun⟨k,zs,Ab,cb⟩=>[(3,.slice Ab zs.length cb),(14,.slice Ai ni ci),(15,.int .i64 ((ni:Nat):Int)),(16,.int .i64 ((k:Nat):Int))]) (fun⟨k,zs,Ab,cb⟩ d=>(k<=ni)/\(zs.length<=60000+30*k)/\(∃tl,zs=JX ins os.length++tl)/\Le w d/\K.heap.size<=d.heap.size/\jO d o.heap.size 5 kL 1 Ab zs.length cb zs) (fun⟨k,zs,Ab,cb⟩=>ni-k) (0,O,L,N) ?_ ?_ ?_))))))))))
  ·exact .of rfl
  ·exact⟨Nat.zero_le _,Q,R,(b.trans s),Nat.le_refl _,P⟩
  rintro⟨k,zs,Ab,cb⟩ d ⟨hk,hzl,Zn,l,S,t⟩
  have al:o.heap.size<=d.heap.size:=by have:=s.size;omega
  refine Sr (Wn 1 rfl (Nx (Sq ?_)))
  by_cases C:((k:Nat):Int)<((ni:Nat):Int)
  ·refine Cy rfl (dT C) (Sn (Sq (WC.block (Sr ?_))))
   have am:=DI hxi (k:=k) (by omega)
   have an:=hs k (by omega)
   have hrb:=lI (ins.getD k jP).br.toNat (by omega);have hrs:=lI (ins.getD k jP).sN (by omega)
   refine Wa (.lL k underlying59 C9 rfl rfl (hI.isSome kS (by omega)) rfl (by omega)) rfl (Wr (.tH P6 rfl (hI.le l) kS (lF ins jP (by omega))) rfl (W.ef rfl rfl rfl (Ef.jR KM fun D T U (V:jL T D 111 (xy jP).toArray) m=>(W.kP rfl rfl (Ef.storeAll C9 (by rfl) rfl rfl V (by simp only[List.size_toArray,kS.len]) (kS.one (ins.getD k jP)) ?_)))))
   intro X u n
   have u:jL X D 111 (xy (ins.getD k jP)).toArray:=u
   refine Nx (Sq (WC.draw [0,1,2,3,5,6,7,8,4,9,10] mixed (by kernel_rfl) fun Y e=>(Gn 1 rfl (Ga rfl (.jE yF rfl) (Ga rfl (.mg Dy rfl) ?_)))))
   have x:=(u.le e)
   refine Gd rfl (.jF (v:= .int .i64 ((ins.getD k jP).br)) j5 rfl x rfl) (Ga rfl (.jE yF rfl) (Ga rfl (.mg Bd rfl) (Gd rfl (.jF (v:= .slice ((ins.getD k jP).sA) ((ins.getD k jP).sN) ((ins.getD k jP).sC)) Mg rfl x rfl) (Gd rfl (.len underlying107 rfl) ?_))))
   have Z:=(((t.le m).cb n (t.rn (by omega))).le e)
   refine G.ef rfl rfl rfl rfl rfl (Ef.call EJ rfl rfl (by have q:=uG ((ins.getD k jP).br).toNat (by omega) (c:=cb) Y Z.vec (by first|omega|(simp only[List.length_append,List.length_nil];omega));rw[Int.toNat_of_nonneg (by omega)]at q;exact q) ?_)
   rintro _ aa ⟨ao,ap,rfl,ab,f⟩
   refine⟨_,rfl,?_⟩
   refine⟨fun _=>f,?_⟩
   refine G.ef rfl rfl rfl rfl rfl (Ef.call EJ rfl rfl (uG ((ins.getD k jP).sN) (by omega) aa ab.vec (by first|omega|(simp only[List.length_append,List.length_nil];omega))) ?_)
   rintro _ ac ⟨aq,ar,rfl,ad,i⟩
   refine⟨_,rfl,?_⟩
   refine⟨fun _=>i,?_⟩
   refine Gn 1 rfl (G.nil (E.jG (Sq (Sr (Wa (.jE yF rfl) rfl (Wa (.mg Bd rfl) rfl ?_))))))
   have F:=(x.le (f.trans i))
   refine Wr (.jF (v:= .slice ((ins.getD k jP).sA) ((ins.getD k jP).sN) ((ins.getD k jP).sC)) Mg rfl F rfl) rfl (Wr (.len underlying107 rfl) rfl (Wn 1 rfl (Nx (WC.block (WC.rounds 1 (qK.step (Sr (Wn 1 rfl (Nx (Sq ?_))))))))))
   refine Cn rfl (dF (by omega)) (WC.exit (E.jJ (E.jJ (E.ko (E.jG (WC.region (Wn 1 rfl (Wa (.jE yF rfl) rfl (Wa (.mg Mi rfl) rfl (Wr (.jF (v:= .int .u64 (((ins.getD k jP).sec:Nat):Int)) Nz rfl F rfl) rfl (W.cl VL rfl rfl (Ie ((ins.getD k jP).sec) ac ad.vec (by first|omega|(simp only[List.length_append,List.length_nil];omega))) ?_)))))))))))
   rintro _ au ⟨ae,af,ah,av,rfl,ai,H⟩
   refine Wn 1 rfl (W.nil (E.jZ (E.jG (WC.region (Wa (.add rfl rfl (by omega)) rfl (Wn 1 rfl (W.nil (E.again (k+1,(((zs++mG ((ins.getD k jP).br).toNat)++mG ((ins.getD k jP).sN))++ah),ae,af) (.of rfl) ?_ ?_))))))))
   ·exact⟨by omega,(by simp only[List.length_append];omega),(by obtain⟨tl,ht⟩:=Zn;rw[ht];simp only[List.append_assoc];exact⟨_,rfl⟩),((((((l.trans m).tb n l U).trans e).trans f).trans i).trans H),by have:=S;have:=m.size;have:=n.size;have:=e.size;have:=f.size;have:=i.size;have:=H.size;omega,(ai.mono (by have:=m.size;have:=n.size;have:=e.size;have:=f.size;have:=i.size;omega))⟩
   first|omega|(simp only[];omega)
  refine Cn rfl (dF C) (WC.exit (E.jJ (E.jJ (E.ko (E.jG (Sr (Wn 2 rfl (Nx (Rt (E.jI rfl rfl ?_))))))))))
  exact⟨_,_,zs,rfl,(t.mono b.size),by omega,⟨fun _=>Zn,fun h=>absurd hx h⟩,l⟩
 refine Cy rfl (congrArg not (Bool.eq_false_iff.2 hx)) (Sr (Wn 1 rfl (Nx (Rt (E.jH (E.jI rfl rfl ?_))))))
 exact⟨none,0,[],rfl,jO.nil _ _ _ _ _ _,Nat.zero_le _,⟨fun h=>absurd h (by assumption),fun _=>rfl⟩,b⟩

theorem Uk {Ai Ao:Option Addr}{ni ci qV co:Nat}{note:Int}{ins:List pY}{rF:List uO}{os:List nC}(w:World)(hI:Vec w xy 36 Ai ni ins)(hO:Vec w xC 2 Ao qV rF)(hU:oF w 0 rF os)(hnt:note<=9223372036854775807):Calls prog 89 #[.agg #[.slice Ai ni ci,.slice Ao qV co,.int .i64 (note)]] w fun r w'=>∃m:List (BitVec 8),m.length=32/\r= .returned (.agg (qX m).toArray)/\Le w w':=by
 have Zl:=hI.1
 have WM:=hO.1
 have WN:=hU.1
 refine enter func89 rfl rfl (Sr (W.ef rfl rfl rfl (Ef.mH rfl fun F H V (I:jL H F 61 #[.slice Ai ni ci,.slice Ao qV co,.int .i64 (note)]) J=>?_)))
 have f:=(Le.refl w).trans J
 refine W.ef rfl rfl rfl (Ef.jR z23 fun i t u (x:jL t i 23 ((List.replicate 32 0#8).map lD).toArray) y=>?_)
 have c:=f.trans y
 refine Nx (Sq (Sr ?_))
 have z:=(I.le y)
 refine Wr (.jK ql (by rfl) rfl z) rfl ?_
 refine W.cl Tw rfl rfl (xg (ci:=ci) (co:=co) (note:=note) t (hI.le c) (hO.le c) (hU.le c)) ?_
 rintro _ K ⟨rfl,d⟩
 have b:=c.trans d
 refine Wn 1 rfl (Nx ?_)
 by_cases A:(FN ins os note)=true
 ·refine Cn rfl (congrArg not A) (Sn (Sr (Wr (.jK ql (by rfl) rfl (z.le d)) rfl ?_)))
  refine W.cl Yq rfl rfl (Fj (ci:=ci) (co:=co) (note:=note) K (hI.le b) (hO.le b) (hU.le b) (by omega) (by assumption)) ?_
  rintro _ X ⟨L,N,e,rfl,O,Y,Z,B⟩
  refine W.ef rfl rfl rfl (Ef.pO [_] underlying210 JB rfl (by intro v hv;simp at hv;rcases hv with rfl<;>rfl) rfl (by decide) (by decide) ?_)
  intro P C aa j k
  have j:jL C P 122 #[.slice L e.length N]:=j
  refine W.cl YF rfl rfl (VZ _ [116#8,120#8] C (ps:=[e]) rfl (j.sl (s:=1) (n:=1) rfl) (.cons (tN (O.le k).vec) (.nil _)) (by rw[TD];show 16+2+_<=_;omega)) ?_
  rintro _ ab ⟨rfl,D⟩
  refine W.kP rfl rfl (Ef.storeAll zx (by simp[(nE _ _),List.length_replicate]) rfl rfl (x.le (d.trans (B.trans (k.trans D)))) (by simp[(nE _ _),List.length_replicate]) (tL _) ?_)
  intro Q l R
  have l:jL Q i 23 ((tag [116#8,120#8] [e]).map lD).toArray:=l
  refine Nx (Rt (E.jI rfl (lS rfl l sV (by simp[(nE _ _)])) ?_))
  exact⟨tag [116#8,120#8] [e],(nE _ _),by rw[sD (nE _ _)],((((b.trans B).trans k).trans D).tb R f u)⟩
 refine Cy rfl (congrArg not (Bool.eq_false_iff.2 A)) (Sr (Wa (.mZ (cells:=((List.replicate 32 0#8).map lD).toArray) underlying23 vJ z23 rfl rfl) rfl (W.kP rfl rfl (Ef.storeAll zx (by simp[List.length_replicate,List.length_replicate]) rfl rfl (x.le d) (by simp[List.length_replicate,List.length_replicate]) (tL _) ?_))))
 intro S o T
 have o:jL S i 23 ((List.replicate 32 0#8).map lD).toArray:=o
 have U:=b.tb T f u
 refine Nx (Rt (E.jH (E.jI rfl (lS rfl o sV (by simp[List.length_replicate])) ?_)))
 exact⟨(List.replicate 32 0#8),List.length_replicate,by rw[sD List.length_replicate],U⟩

theorem OB {Ai Ao:Option Addr}{ni ci qV co:Nat}{note:Int}{ins:List pY}{rF:List uO}{os:List nC}(w:World)(hI:Vec w xy 36 Ai ni ins)(hO:Vec w xC 2 Ao qV rF)(hU:oF w 0 rF os)(hnt:note<=9223372036854775807)(hx:FN ins os note=true):Calls prog 37 #[.agg #[.slice Ai ni ci,.slice Ao qV co,.int .i64 (note)]] w fun r w'=>∃A' c' ys,ys.length=os.length/\r= .returned (.slice A' ys.length c')/\jO w' w.heap.size 37 BX 33 A' ys.length c' ys/\Le w w':=by
 have Zl:=hI.1
 have WM:=hO.1
 have WN:=hU.1
 obtain⟨ac,hxi,ts,hxs⟩:=BD hx
 refine enter func37 rfl rfl (Sr (W.ef rfl rfl rfl (Ef.mH rfl fun P z ad (n:jL z P 61 #[.slice Ai ni ci,.slice Ao qV co,.int .i64 (note)]) Q=>?_)))
 have i:=(Le.refl w).trans Q
 refine Wn 1 rfl (Nx (Sr (Wr (.jK ql (by rfl) rfl n) rfl ?_)))
 refine W.cl aa9 rfl rfl (Uk (ci:=ci) (co:=co) (note:=note) z (hI.le i) (hO.le i) (hU.le i) (by omega)) ?_
 rintro _ ae ⟨b,d,rfl,o⟩
 have A:=i.trans o
 refine W.ef rfl rfl rfl (Ef.jR z23 fun j R S (T:jL R j 23 (qX noH).toArray) B=>(W.kP rfl rfl (Ef.storeAll zx (by rfl) rfl rfl T (by simp only[List.size_toArray,yh.len]) (yh.one b) ?_)))
 intro C s D
 have s:jL C j 23 (qX b).toArray:=s
 have l:=(A.trans B).tb D A S
 refine Nx (Sq (Sr ?_))
 have F:=((n.le (o.trans B)).cn D (by have:=n.lt;have:=o.size;omega))
 refine Wr (.jK ql (by rfl) rfl F) rfl ?_
 refine W.cl Tw rfl rfl (xg (ci:=ci) (co:=co) (note:=note) C (hI.le l) (hO.le l) (hU.le l)) ?_
 rintro _ e ⟨rfl,t⟩
 have u:=l.trans t
 refine Wn 1 rfl (Nx (Cn rfl (congrArg not (hx)) (Sn (Sq (Sr (Wa (.jE qC rfl) rfl (Wr (.jF (v:= .slice Ao qV co) sW rfl (F.le t) rfl) rfl (Wr (.len underlying31 rfl) rfl ?_))))))))
 refine Wn 1 rfl (Nx (WC.block ?_))
 have H:=(s.le t)
 refine WC.loop (ι:=Nat×(List Cw)×(Option Addr)×Nat) (fun⟨k,ys,Ab,cb⟩=>[(2,.slice Ab k cb),(3,.pointer (some ⟨j,0,none⟩)),(12,.int .i64 ((qV:Nat):Int)),(13,.int .i64 ((k:Nat):Int))]) (fun⟨k,ys,Ab,cb⟩ c=>(k<=qV)/\(ys.length=k)/\Le w c/\e.heap.size<=c.heap.size/\jO c e.heap.size 37 BX 33 Ab k cb ys/\jL c j 23 (qX b).toArray) (fun⟨k,ys,Ab,cb⟩=>qV-k) (0,[],none,0) ?_ ?_ ?_
 ·exact .of rfl
 ·exact⟨Nat.zero_le _,rfl,u,Nat.le_refl _,(jO.nil e e.heap.size 37 BX 33 none),H⟩
 rintro⟨k,ys,Ab,cb⟩ c ⟨hk,hyk,I,U,J,K⟩
 have V:e.heap.size<=c.heap.size:=by omega
 refine Sr (Wn 1 rfl (Nx (Sq ?_)))
 by_cases L:((k:Nat):Int)<((qV:Nat):Int)
 ·refine Cy rfl (dT L) (Sn (Sq (WC.block (Sr (Wn 2 rfl (Nx (WC.region (Wn 1 rfl (Wr (.jK sV (by rfl) rfl K) rfl ?_)))))))))
  refine Wn 1 rfl (Wa (.kK (BX (⟨⟨b,d⟩,((k:Nat):Int)⟩:Cw)) Y1 z37 rfl rfl) rfl (W.ef rfl rfl rfl (Ef.jX (len:=1) [_] underlying124 Tj rfl (by simp[Value.cells,qo.len]) rfl (by decide) (by decide) ?_)))
  intro N O X m f
  have m:jL O N 37 (([(⟨⟨b,d⟩,((k:Nat):Int)⟩:Cw)]).map BX).flatten.toArray:=m
  have af:jO O c.heap.size 37 BX 33 (some ⟨N,0,none⟩) 1 1 ([(⟨⟨b,d⟩,((k:Nat):Int)⟩:Cw)]):=m.pQ X qo rfl rfl (by decide)
  have x:=(J.le f)
  refine W.ef rfl rfl rfl (Ef.xw (a:=(⟨⟨b,d⟩,((k:Nat):Int)⟩:Cw)) underlying124 Tj underlying124 qo rfl x rfl m (by omega) (by unfold maxLen;omega) (by have:=V;have:=f.size;omega) ?_)
  intro Y Z ah aa y ai
  refine Wn 1 rfl (W.nil (E.jZ (E.jG (WC.region (Wa (.add rfl rfl (by omega)) rfl (Wn 1 rfl (W.nil ?_)))))))
  have ab:=((K.le f).ch y (x.rl (by have:=H.lt;omega)))
  refine E.again (k+1,(ys++[(⟨⟨b,d⟩,((k:Nat):Int)⟩:Cw)]),Y,Z) (.of rfl) ?_ ?_
  ·exact⟨by omega,(by rw[List.length_append,hyk];rfl),((I.trans f).kI y (fun q hq=>Nat.le_trans u.size (x.row hq).1)),by have:=U;have:=f.size;have:=y.size;omega,aa,ab⟩
  first|omega|(simp only[];omega)
 refine Cn rfl (dF L) (WC.exit (E.jJ (E.jJ (E.ko (E.jG (Sr (Wn 2 rfl (Nx (Rt (E.jI rfl rfl ?_))))))))))
 subst hyk
 exact⟨_,_,ys,by omega,rfl,(J.mono u.size),I⟩
end Go.Proofs.YtcaehidaejhdfaaGreat

namespace Go.Sx
theorem Any.yK {P:Program}{env:Env}{n:Nat}{d:Option Nat}{T:TypeId}{p:String}{af:Array Edge}{g:Option (Nat×Bool)}{x:Operand}{A:Option Addr}{j:Nat}(hA:A.isSome=true)(hx:ev env x=some (ptr A j)):Any P env n ⟨d,.nilCheck x,T,p,af,g⟩ (ptr A j):=by
  obtain⟨ad,rfl⟩:=Option.isSome_iff_exists.1 hA
  exact Any.nilCheck hx
end Go.Sx
namespace Go.Proofs.YtcaehidaejhdfaaGreat
open Tryz
open Go Go.Sx Go.wI Go.Num Go.Ac Go.rZ Go.Lsp Go.Fv Go.Dk
set_option maxRecDepth 20000
def Ae (m:Int)(v:Nat):Int:=if((v:Nat):Int)>m then-1 else((v:Nat):Int)
theorem Ls (m:Int)(v:Nat):Ae m v= -1\/(Ae m v=((v:Nat):Int)/\((v:Nat):Int)<=m):=by
  unfold Ae;split<;>omega
theorem GI {l:List pY}{k:Nat}{x:pY}(hk:k<l.length):(l.set k x).getD k jP=x:=by simp[List.getD,hk]
theorem OC {l:List pY}{k i:Nat}{x:pY}(hk:i≠k):(l.set k x).getD i jP=l.getD i jP:=by simp[List.getD,List.getElem?_set,Ne.symm hk]
theorem Lt {n:Nat}(h:n<128):mG n=[BitVec.ofNat 8 n]:=by rw[mG,dif_pos h]
structure JY (xs:List (BitVec 8))(ins:List pY)(m:Nat)(tl:List (BitVec 8)):Prop where
  eq:xs=JX ins m++tl
  n1:1<=ins.length
  n2:ins.length<=64
  m1:1<=m
  m2:m<=64
  no:∀k,k<ins.length->0<=(ins.getD k jP).op.no/\(ins.getD k jP).op.no<64
def Di (ins:List pY)(m:Nat)(tl:List (BitVec 8))(k:Nat):List (BitVec 8)×Bool:=(((ins.drop k).map RY).flatten++mG m++tl,false)
theorem CE {s s':List (BitVec 8)×Bool}{v n:Nat}{r:List (BitVec 8)}(hn:n<128)(hs:s=(mG n++r,false))(h:Oz s v s'):v=n/\s'=(r,false):=by
  subst hs
  rw[Lt hn]at h
  have e:(BitVec.ofNat 8 n).toNat=n:=by rw[BitVec.toNat_ofNat];exact Nat.mod_eq_of_lt (by omega)
  obtain⟨b,c⟩:=h.2.2.2 _ _ rfl (by rw[e];exact hn)
  exact⟨by rw[b,e],c⟩
theorem OD {xs:List (BitVec 8)}{ins:List pY}{m v:Nat}{tl:List (BitVec 8)}{s':List (BitVec 8)×Bool}(hb:JY xs ins m tl)(h:Oz (xs,false) v s'):Ae 64 v=(ins.length:Int)/\s'=Di ins m tl 0:=by
  have e:=CE (n:=ins.length) (r:=(ins.map RY).flatten++mG m++tl) (by have:=hb.n2;omega) (by rw[hb.eq];unfold JX;simp only[List.append_assoc]) h
  refine⟨?_,by rw[e.2];rfl⟩
  rw[e.1]
  exact if_neg (by have:=hb.n2;omega)
theorem Wp {xs:List (BitVec 8)}{ins:List pY}{m v k:Nat}{tl:List (BitVec 8)}{s s1 s':List (BitVec 8)×Bool}(hb:JY xs ins m tl)(hk:k<ins.length)(hs:s=Di ins m tl k)(h1:U7 s s1)(h2:Oz s1 v s'):s'=Di ins m tl (k+1):=by
  have hd:ins.drop k=ins.getD k jP::ins.drop (k+1):=by
    rw[List.drop_eq_getElem_cons hk]
    simp[List.getD,hk]
  have hid:=(ins.getD k jP).op.id.2
  have hno:=hb.no k hk
  have b:s=((ins.getD k jP).op.id.1++(mG (ins.getD k jP).op.no.toNat++(((ins.drop (k+1)).map RY).flatten++mG m++tl)),false):=by
    rw[hs]
    unfold Di
    rw[hd]
    simp only[List.map_cons,List.flatten_cons,RY,List.append_assoc]
  have e1:s1=(mG (ins.getD k jP).op.no.toNat++(((ins.drop (k+1)).map RY).flatten++mG m++tl),false):=by
    rw[h1.2 (by rw[b]) (by rw[b];simp only[List.length_append];omega),b]
    simp only
    rw[List.drop_left' hid]
  exact(CE (by omega) e1 h2).2
theorem Ul {xs:List (BitVec 8)}{ins:List pY}{m v k:Nat}{tl:List (BitVec 8)}{s s':List (BitVec 8)×Bool}(hb:JY xs ins m tl)(hk:ins.length<=k)(hs:s=Di ins m tl k)(h:Oz s v s'):Ae 64 v=(m:Int):=by
  have e:=CE (n:=m) (r:=tl) (by have:=hb.m2;omega) (by rw[hs];unfold Di;rw[List.drop_of_length_le hk];rfl) h
  rw[e.1]
  exact if_neg (by have:=hb.m2;omega)
theorem Iq {base g gb:Nat}{F:Nat->Prop}{s:List (BitVec 8)×Bool}(m:Int){w:World}(hb:jL w gb 170 #[.pointer (some ⟨g,0,none⟩)])(hne:¬F gb)(hP:uK w base g F s):Calls prog 77 #[.int .i64 m,.pointer (some ⟨gb,0,none⟩)] w fun r w'=>∃v s',r= .returned (.int .i64 (Ae m v))/\Oz s v s'/\uK w' base g F s'/\ll w w' F:=by
 refine enter func77 rfl rfl ?_
 have d:=ll.refl w F
 refine Sr (Wn 1 rfl (Nx (Sr (Wr (.jF (v:= .pointer (some ⟨g,0,none⟩)) si rfl (hb.kX d hne) rfl) rfl (W.cl FJ rfl rfl (xf hP) ?_)))))
 rintro _ n ⟨b,e,rfl,c,f,l⟩
 have j:=d.sub l (fun i hi hlt=>hi)
 have o:=c.1
 refine Wn 1 rfl (Nx (Sq (Sr (Wn 3 rfl (Nx ?_)))))
 by_cases k:m<((b:Nat):Int)
 ·refine Cy rfl (dT k) (Sr (Wn 1 rfl (Nx (Rt (E.jH (E.jI rfl rfl ?_))))))
  exact⟨b,e,by unfold Ae;first|rw[if_pos (by assumption)]|rw[if_neg (by assumption)],c,f,j⟩
 refine Cn rfl (dF k) (Sn (Sr (Wn 2 rfl (Nx (Rt (E.jI rfl rfl ?_))))))
 exact⟨b,e,by unfold Ae;first|rw[if_pos (by assumption)]|rw[if_neg (by assumption)],c,f,j⟩
end Go.Proofs.YtcaehidaejhdfaaGreat

