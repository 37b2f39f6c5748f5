/- LedgerSplices: for every input the law answers true and leaves its arguments as they were. -/
import Derived.Test.YtcaehidaejhdfaaGreatLedgerSplicesM
import Derived.Shelf.SlIterI.Nil
import Derived.Shelf.SortM.Plain
import Derived.Shelf.SortM.SortNone
import Derived.Ground.GgzProg
import Derived.Ground.SlgmProg
set_option linter.unusedVariables false
set_option linter.unusedSimpArgs false
set_option maxRecDepth 20000
namespace Go.Proofs
open Go.Shelf
def Tryz.Gv:Go.Shelf.Ren:=⟨fun|7=>51|10=>96|n=>n,fun|23=>129|26=>3|3=>70|28=>149|0=>0|27=>148|33=>134|4=>4|n=>n,fun|n=>n⟩
theorem Tryz.U0:Go.Proofs.SlLaysZI.n7 prog Tryz.Gv:={
  mixed:=by kernel_rfl
  f7:=⟨Tryz.f51.name,by decide,func51.trans (congrArg some (by kernel_rfl))⟩
  f10:=⟨Tryz.f96.name,by decide,func96.trans (congrArg some (by kernel_rfl))⟩
  t0:=underlying0
  a0:=Tryz.isAgg0
  z0:=Tryz.sizeOf0
  v0:=Tryz.zeroValue0
  t4:=underlying4
  a4:=Tryz.isAgg4
  z4:=Tryz.sizeOf4
  v4:=Tryz.zeroValue4
  t23:=underlying129
  a23:=Tryz.isAgg129
  z23:=Tryz.sizeOf129
  v23:=Tryz.zeroValue129
  t26:=underlying3
  a26:=Tryz.isAgg3
  z26:=Tryz.sizeOf3
  v26:=Tryz.zeroValue3
  t27:=underlying148
  a27:=Tryz.isAgg148
  z27:=Tryz.sizeOf148
  v27:=Tryz.zeroValue148
  t28:=underlying149
  a28:=Tryz.isAgg149
  z28:=Tryz.sizeOf149
  v28:=Tryz.zeroValue149
  t33:=underlying134
  a33:=Tryz.isAgg134
  z33:=Tryz.sizeOf134
  v33:=Tryz.zeroValue134}
def Tryz.Dc:Go.Shelf.Ren:=⟨fun|6=>50|8=>94|9=>95|11=>129|13=>131|12=>130|23=>157|24=>158|14=>148|15=>149|16=>150|17=>151|18=>152|19=>153|20=>154|21=>155|22=>156|25=>167|26=>168|27=>169|28=>170|29=>171|30=>138|31=>179|n=>n,fun|26=>3|28=>149|24=>67|0=>0|3=>3|37=>187|48=>25|50=>38|4=>4|40=>221|39=>220|45=>126|5=>5|9=>9|51=>236|55=>239|57=>248|58=>156|33=>134|n=>n,fun|n=>n⟩
theorem Tryz.TQ:Go.Proofs.SlLaysZI.n6 prog Tryz.Dc:={
  mixed:=by kernel_rfl
  f6:=⟨Tryz.f50.name,by decide,func50.trans (congrArg some (by kernel_rfl))⟩
  f8:=⟨Tryz.f94.name,by decide,func94.trans (congrArg some (by kernel_rfl))⟩
  f11:=⟨Tryz.f129.name,by decide,func129.trans (congrArg some (by kernel_rfl))⟩
  t0:=underlying0
  a0:=Tryz.isAgg0
  z0:=Tryz.sizeOf0
  v0:=Tryz.zeroValue0
  t24:=underlying67
  a24:=Tryz.isAgg67
  z24:=Tryz.sizeOf67
  v24:=Tryz.zeroValue67
  t26:=underlying3
  a26:=Tryz.isAgg3
  z26:=Tryz.sizeOf3
  v26:=Tryz.zeroValue3
  t28:=underlying149
  a28:=Tryz.isAgg149
  z28:=Tryz.sizeOf149
  v28:=Tryz.zeroValue149
  i26:=by kernel_rfl}
def Tryz.NZ:Go.Shelf.Ren:=⟨fun|5=>95|8=>131|7=>130|19=>157|20=>158|10=>148|11=>149|12=>150|13=>151|14=>152|15=>153|16=>154|17=>155|18=>156|30=>167|31=>168|32=>169|33=>170|34=>171|35=>138|40=>179|n=>n,fun|23=>67|25=>3|3=>3|32=>187|22=>67|0=>0|44=>25|46=>38|4=>4|36=>221|35=>220|41=>126|5=>5|9=>9|53=>236|57=>239|63=>248|64=>156|n=>n,fun|n=>n⟩
theorem Tryz.U1:Go.Proofs.SlLaysM.n5 prog Tryz.NZ:={
  mixed:=by kernel_rfl
  f5:=⟨Tryz.f95.name,by decide,func95.trans (congrArg some (by kernel_rfl))⟩
  f7:=⟨Tryz.f130.name,by decide,func130.trans (congrArg some (by kernel_rfl))⟩
  f8:=func131.trans (congrArg some (by kernel_rfl))
  f10:=⟨Tryz.f148.name,by decide,func148.trans (congrArg some (by kernel_rfl))⟩
  f11:=⟨Tryz.f149.name,by decide,func149.trans (congrArg some (by kernel_rfl))⟩
  f12:=⟨Tryz.f150.name,by decide,func150.trans (congrArg some (by kernel_rfl))⟩
  f13:=⟨Tryz.f151.name,by decide,func151.trans (congrArg some (by kernel_rfl))⟩
  f14:=⟨Tryz.f152.name,by decide,func152.trans (congrArg some (by kernel_rfl))⟩
  f15:=⟨Tryz.f153.name,by decide,func153.trans (congrArg some (by kernel_rfl))⟩
  f16:=⟨Tryz.f154.name,by decide,func154.trans (congrArg some (by kernel_rfl))⟩
  f17:=⟨Tryz.f155.name,by decide,func155.trans (congrArg some (by kernel_rfl))⟩
  f18:=⟨Tryz.f156.name,by decide,func156.trans (congrArg some (by kernel_rfl))⟩
  f19:=func157.trans (congrArg some (by kernel_rfl))
  f20:=func158.trans (congrArg some (by kernel_rfl))
  f30:=⟨Tryz.f167.name,by decide,func167.trans (congrArg some (by kernel_rfl))⟩
  f31:=func168.trans (congrArg some (by kernel_rfl))
  f32:=func169.trans (congrArg some (by kernel_rfl))
  f33:=⟨Tryz.f170.name,by decide,func170.trans (congrArg some (by kernel_rfl))⟩
  f34:=⟨Tryz.f171.name,by decide,func171.trans (congrArg some (by kernel_rfl))⟩
  f35:=⟨Tryz.f138.name,by decide,func138.trans (congrArg some (by kernel_rfl))⟩
  f40:=⟨Tryz.f179.name,by decide,func179.trans (congrArg some (by kernel_rfl))⟩
  t0:=underlying0
  a0:=Tryz.isAgg0
  z0:=Tryz.sizeOf0
  v0:=Tryz.zeroValue0
  t3:=underlying3
  a3:=Tryz.isAgg3
  z3:=Tryz.sizeOf3
  v3:=Tryz.zeroValue3
  t4:=underlying4
  a4:=Tryz.isAgg4
  z4:=Tryz.sizeOf4
  v4:=Tryz.zeroValue4
  t5:=underlying5
  a5:=Tryz.isAgg5
  z5:=Tryz.sizeOf5
  v5:=Tryz.zeroValue5
  t9:=underlying9
  a9:=Tryz.isAgg9
  z9:=Tryz.sizeOf9
  v9:=Tryz.zeroValue9
  t22:=underlying67
  a22:=Tryz.isAgg67
  z22:=Tryz.sizeOf67
  v22:=Tryz.zeroValue67
  t23:=underlying67
  a23:=Tryz.isAgg67
  z23:=Tryz.sizeOf67
  v23:=Tryz.zeroValue67
  t25:=underlying3
  a25:=Tryz.isAgg3
  z25:=Tryz.sizeOf3
  v25:=Tryz.zeroValue3
  t32:=underlying187
  a32:=Tryz.isAgg187
  z32:=Tryz.sizeOf187
  v32:=Tryz.zeroValue187
  t35:=underlying220
  a35:=Tryz.isAgg220
  z35:=Tryz.sizeOf220
  v35:=Tryz.zeroValue220
  t36:=underlying221
  a36:=Tryz.isAgg221
  z36:=Tryz.sizeOf221
  v36:=Tryz.zeroValue221
  t41:=underlying126
  a41:=Tryz.isAgg126
  z41:=Tryz.sizeOf126
  v41:=Tryz.zeroValue126
  t44:=underlying25
  a44:=Tryz.isAgg25
  z44:=Tryz.sizeOf25
  v44:=Tryz.zeroValue25
  t46:=underlying38
  a46:=Tryz.isAgg38
  z46:=Tryz.sizeOf38
  v46:=Tryz.zeroValue38
  t53:=underlying236
  a53:=Tryz.isAgg236
  z53:=Tryz.sizeOf236
  v53:=Tryz.zeroValue236
  t57:=underlying239
  a57:=Tryz.isAgg239
  z57:=Tryz.sizeOf239
  v57:=Tryz.zeroValue239
  t63:=underlying248
  a63:=Tryz.isAgg248
  z63:=Tryz.sizeOf248
  v63:=Tryz.zeroValue248
  t64:=underlying156
  a64:=Tryz.isAgg156
  z64:=Tryz.sizeOf156
  v64:=Tryz.zeroValue156}
end Go.Proofs
namespace Go.Proofs.YtcaehidaejhdfaaGreat
open Tryz
open Go Go.Sx Go.Num Go.rZ Go.Lsp Go.RowKit Go.Maps Go.Sort Go.Shelf
theorem V3 (m:Nat):AnyZI.SortsIn prog Tryz.Dc Fence.wide m:=
  ⟨fun blk off cap ss W hH hblk hsz=>callsIn_wide.2 (AnyM.slices_Sort_int Tryz.U1 blk off cap ss W hH hblk hsz),
   fun p cap W=>callsIn_wide.2 (AnyM.slices_Sort_int_none Tryz.U1 p cap W)⟩
theorem TR (ga:Nat)(w:World):Calls prog 51 #[.map (some ga)] w fun r w'=>r= .returned (.func (.func 96) #[] #[.pointer (some ⟨w.heap.size,0,none⟩)])/\jL w' w.heap.size 129 #[.map (some ga)]/\Le w w':=by
  have h:=callsIn_wide.1 (AnyZI.keys_in Tryz.U0 Fence.wide 5 trivial rfl (some ga) w)
  refine Calls.mono h ?_
  rintro e w' ⟨rfl,rfl⟩
  exact⟨rfl,jL.new w _ _,(Below.refl _ w).alloc (Nat.le_refl _) _⟩
def V4 (x:Int):Prop:= -9223372036854775808<=x/\x<=9223372036854775807
theorem V5 {x:Int}(h:V4 x):(Lit.int .i64 x).wf=true:=by
  unfold V4 at h
  have b:IntKind.i64.min= -9223372036854775808:=by decide
  have c:IntKind.i64.max=9223372036854775807:=by decide
  simp only[Lit.wf,b,c,decide_eq_true_eq,Bool.and_eq_true]
  omega
abbrev noR:Value->Option (DataW Unit×List MemPlace):=fun _=>some (.nil,[])
def mapD (la:List (Nat×Int×Seat)):DataW Unit:= .map ((la.map fun x=>(Lit.int .i64 x.2.1,(DataW.nil:DataW Unit))).foldr DataW.insert [])
theorem Mv {x:Nat×Int×Seat}(h:V4 x.2.1):Go.WideElems.rd prog 3 noR (mJ sw mK x)=some (Lit.int .i64 x.2.1,.nil):=by
  have hk:keyOf prog 3 (Value.int .i64 x.2.1)=some (Lit.int .i64 x.2.1):=by
    unfold keyOf
    rw[underlying3]
    simp[mapKey,underlying3,V5 h]
  unfold Go.WideElems.rd
  simp only[mJ,sw,hk]
  rfl
theorem V6 {ga ca:Nat}{la:List (Nat×Int×Seat)}{w:World}(hM:kH w sw mK ga la ca)(hr:∀x∈la,V4 x.2.1)(hl:la.length<=1000000):w.ownsMap prog 3 noR ga la.length (mapD la):=by
  refine⟨_,_,hM.1,⟨by simp;unfold maxLen;omega,⟨?_,?_,?_⟩,?_⟩,by simp,?_⟩
  · intro x hx
    simp only[List.mem_map]at hx
    obtain⟨y,hy,rfl⟩:=hx
    exact hM.2.old y hy
  · have:=hM.2.Ei
    simpa[List.map_map,Function.comp_def,mJ]using this
  · have h:=hM.2.keys
    have e:(la.map (mJ sw mK)).map (fun x=>x.key)=(la.map fun x=>x.2.1).map sw:=by simp[List.map_map,Function.comp_def,mJ]
    simp only
    rw[e]
    exact List.Pairwise.map _ (fun a b hab he=>hab (by simpa[sw]using he)) h
  · intro x hx
    simp only[List.mem_map]at hx
    obtain⟨y,hy,rfl⟩:=hx
    exact⟨_,Mv (hr y hy)⟩
  · unfold mapD
    congr 2
    simp only[List.map_map]
    apply List.map_congr_left
    intro x hx
    simp only[Function.comp,Go.WideElems.rg,Mv (hr x hx)]
    rfl
theorem Gw (la:List (Nat×Int×Seat)):Maps.size (mapD la)=la.length:=by
  unfold mapD
  rw[Maps.size_eq,(Go.WideShapes.sorted_perm _).length_eq]
  simp
theorem N7 (la:List (Nat×Int×Seat)):(intKeys (mapD la)).Perm (la.map fun x=>x.2.1):=by
  unfold mapD intKeys
  refine((Go.WideShapes.sorted_perm _).map _).trans ?_
  rw[List.map_map]
  exact List.Perm.refl _
theorem N8 {ga ca gk:Nat}{la:List (Nat×Int×Seat)}(w:World)(hB:jL w gk 129 #[.map (some ga)])(hM:kH w sw mK ga la ca)(hr:∀x∈la,V4 x.2.1)(hl:la.length<=1000000):
    Calls prog 50 #[.func (.func 96) #[] #[.pointer (some ⟨gk,0,none⟩)]] w fun r w'=>∃(A:Option Addr) (c:Nat) (ns:List Int),r= .returned (.slice A la.length c)/\ns.Perm (la.map fun x=>x.2.1)/\ns.Pairwise (· <= ·)/\jO w' w.heap.size 3 iv 1 A la.length c ns/\Le w w':=by
  have hown:=V6 hM hr hl
  have hseq:SeqGives Fence.wide 2 prog 96 #[.pointer (some ⟨gk,0,none⟩)] encZ (fun ss=>ss.Perm (intKeys (mapD la))) (Maps.size (mapD la)) w:=
    AnyZI.keys_gives (ρ:=Tryz.Gv) {Tryz.U0 with} Fence.wide _ trivial rfl (by omega) gk ga la.length (mapD la) _ hB.lt (by unfold World.cell?;rw[show w.heap[gk]? =_ from hB];rfl) hown
  have cS:=AnyZI.sorted_in Tryz.TQ Fence.wide 5 trivial trivial trivial trivial rfl (by omega) (V3 _) (enters_of func95 (by kernel_rfl) rfl) 96 #[.pointer (some ⟨gk,0,none⟩)] trivial (enters_of func96 (by kernel_rfl) rfl) _ _ (by rw[Gw];unfold maxLen;omega) (by rw[Gw];omega) _ hseq
  change CallsIn _ _ prog 50 _ _ _ at cS
  refine Calls.mono (callsIn_wide.1 cS) ?_
  rintro e w' ⟨v,ss,rfl,hS,hrow,hnil,hb⟩
  have hp:ss.Perm (la.map fun x=>x.2.1):=hS.trans (N7 la)
  have hlen:ss.length=la.length:=by rw[hp.length_eq,List.length_map]
  have hms:(ss.mergeSort (fun x y=>decide (x<=y))).Perm (la.map fun x=>x.2.1):=(List.mergeSort_perm _ _).trans hp
  have hpw:(ss.mergeSort (fun x y=>decide (x<=y))).Pairwise (· <= ·):=by
    have:=List.pairwise_mergeSort (le:=fun x y:Int=>decide (x<=y)) (by intro a b c;simp;omega) (by intro a b;simp;omega) ss
    exact this.imp (by intro a b h;simpa using h)
  obtain⟨d,f⟩:=hrow
  rcases f with⟨rfl,i⟩|⟨g,cap,cur,rfl,hg,hc,hn,hm,hz,ht⟩
  · have j:la.length=0:=by omega
    have k:ss=[]:=List.length_eq_zero_iff.1 i
    subst k
    rw[j]
    exact⟨none,0,[],rfl,by simpa using hms,List.Pairwise.nil,jO.nil _ _ _ _ _ _,hb⟩
  · rw[hlen]at d hn ht ⊢
    exact⟨some ⟨g,0,none⟩,cap,_,rfl,hms,hpw,Own.pQ ⟨d,.inr ⟨g,cur,rfl,hg,hc,hn,hm,hz,ht⟩⟩,hb⟩
end Go.Proofs.YtcaehidaejhdfaaGreat

namespace Go.Proofs.YtcaehidaejhdfaaGreat
open Tryz
open Go Go.Sx Go.Num Go.rZ Go.Lsp
set_option maxRecDepth 20000
def zC (ls:SM)(k:Int):Seat:=(jW k ls).getD jM
theorem ES {ls:SM}{ns:List Int}{k:Nat}(h:k<ns.length):(ns.take k).map (zC ls)++[zC ls (ns.getD k 0)]=(ns.take (k+1)).map (zC ls):=by
  rw[List.take_add_one,lF ns 0 h,List.map_append]
  rfl
theorem N9 {gp gs gh c cs ck:Nat}{A:Option Addr}{own:List Int}{ls:SM}{lh:HM}{lost:Int}(w:World)(hL:mf w gp gs gh A c cs ck own ls lh lost)(hr:∀x∈ls,V4 x.2.1)(hl:ls.length<=1000000):Calls prog 22 #[.pointer (some ⟨gp,0,none⟩)] w fun r w'=>∃(A':Option Addr) (c':Nat) (ns:List Int),r= .returned (.slice A' ls.length c')/\ns.Perm (ls.map fun x=>x.2.1)/\ns.Pairwise (· <= ·)/\jO w' w.heap.size 70 jT 5 A' ls.length c' (ns.map (zC ls))/\Le w w':=by
 refine enter func22 rfl rfl ?_
 have N:=Le.refl w
 refine Sr (Wn 1 rfl (Nx (Sr (Wn 1 rfl (Nx (Sq (Sr (Wn 1 rfl (Wa (.nilCheck rfl) rfl (Wa (.jE mM rfl) rfl (Wr (.jF (v:= .map (some gs)) rR rfl (hL.hp.le N) rfl) rfl (W.cl aaY rfl rfl (TR gs w) ?_))))))))))))
 rintro _ F ⟨rfl,aa,m⟩
 have O:=N.trans m
 refine W.cl aaX rfl rfl (N8 F aa (hL.hS.le O) hr hl) ?_
 rintro _ n ⟨P,Q,d,rfl,ab,ac,i,j⟩
 have l:=O.trans j
 refine Wr (.len underlying67 rfl) rfl (Wn 1 rfl (Nx (WC.block (WC.loop (ι:=Nat×(Option Addr)×Nat) (fun⟨k,Ab,cb⟩=>[(0,.pointer (some ⟨gp,0,none⟩)),(3,.slice Ab k cb),(11,.slice P ls.length Q),(12,.int .i64 ((ls.length:Nat):Int)),(13,.int .i64 ((k:Nat):Int))]) (fun⟨k,Ab,cb⟩ b=>(k<=ls.length)/\Le w b/\n.heap.size<=b.heap.size/\kH b sw mK gs ls cs/\kH b Bg oK gh lh ck/\jO b n.heap.size 70 jT 5 Ab k cb ((d.take k).map (zC ls))/\jO b F.heap.size 3 iv 1 P ls.length Q d) (fun⟨k,Ab,cb⟩=>ls.length-k) (0,none,0) ?_ ?_ ?_))))
 ·exact .of rfl
 ·exact⟨Nat.zero_le _,l,Nat.le_refl _,(hL.hS.le l),(hL.hH.le l),(jO.nil n n.heap.size 70 jT 5 none),i⟩
 rintro⟨k,Ab,cb⟩ b ⟨hk,z,R,B,S,H,I⟩
 have T:n.heap.size<=b.heap.size:=by omega
 have ap:F.heap.size<=b.heap.size:=by have:=j.size;omega
 have hnl:=i.1
 refine Sr (Wn 1 rfl (Nx (Sq ?_)))
 by_cases U:((k:Nat):Int)<((ls.length:Nat):Int)
 ·refine Cy rfl (dT U) (Sn (Sq (WC.block (Sr (Wa (.lL k underlying67 kz rfl rfl (i.vec.isSome kr (by omega)) rfl (by omega)) rfl (Wr (.pg (v:= .int .i64 (d.getD k 0)) j5 rfl I.vec kr (lF d 0 (by omega)) rfl) rfl (Wn 1 rfl (Nx (WC.region (Wn 2 rfl (Wa (.nilCheck rfl) rfl ?_)))))))))))
  refine Wa (.jE mM rfl) rfl (Wr (.jF (v:= .map (some gs)) rR rfl (hL.hp.le z) rfl) rfl (Wn 1 rfl ?_))
  rcases optG (jW (d.getD k 0) ls)with o|⟨J,o⟩
  ·refine Wr (.as (.tQ (key:=(d.getD k 0)) underlying129 oU z70 rfl rfl B) (by rw[o]<;>rfl)) rfl ?_
   refine W.ef rfl rfl rfl (Ef.jX (len:=1) [_] underlying94 KJ rfl (by simp[Value.cells,mK,jQ.len]) rfl (by decide) (by decide) ?_)
   intro V X ad C e
   have C:jL X V 70 (([jM]).map jT).flatten.toArray:=C
   have aq:jO X b.heap.size 70 jT 5 (some ⟨V,0,none⟩) 1 1 ([jM]):=C.pQ ad jQ rfl rfl (by decide)
   have s:=(H.le e)
   refine W.ef rfl rfl rfl (Ef.xw (a:=jM) underlying94 KJ underlying94 jQ rfl s rfl C (by omega) (by unfold maxLen;omega) (by have:=T;have:=e.size;omega) ?_)
   intro ae af ar ah t au
   refine Wn 1 rfl (W.nil (E.jZ (E.jG (WC.region (Wa (.add rfl rfl (by omega)) rfl (Wn 1 rfl (W.nil ?_)))))))
   have f6:=((B.le e).ch t (s.rl (by have:=hL.hS.lt;have:=m.size;have:=j.size;omega)))
   have f7:=((S.le e).ch t (s.rl (by have:=hL.hH.lt;have:=m.size;have:=j.size;omega)))
   have f8:=((I.le e).ch t (Apart.symm (fun q K L=>by have:=(i.row K).2;have:=(s.row L).1;omega)))
   refine E.again (k+1,ae,af) (.of rfl) ?_ ?_
   ·exact⟨by omega,((z.trans e).kI t (fun q hq=>Nat.le_trans l.size (s.row hq).1)),by have:=R;have:=e.size;have:=t.size;omega,f6,f7,(ah.cast rfl (by rw[<-ES (by omega)];unfold zC;first|rfl|(rw[o];rfl))),f8⟩
   first|omega|(simp only[];omega)
  refine Wr (.as (.tQ (key:=(d.getD k 0)) underlying129 oU z70 rfl rfl B) (by rw[o]<;>rfl)) rfl ?_
  refine W.ef rfl rfl rfl (Ef.jX (len:=1) [_] underlying94 KJ rfl (by simp[Value.cells,mK,jQ.len]) rfl (by decide) (by decide) ?_)
  intro Y Z ai D f
  have D:jL Z Y 70 (([J]).map jT).flatten.toArray:=D
  have av:jO Z b.heap.size 70 jT 5 (some ⟨Y,0,none⟩) 1 1 ([J]):=D.pQ ai jQ rfl rfl (by decide)
  have u:=(H.le f)
  refine W.ef rfl rfl rfl (Ef.xw (a:=J) underlying94 KJ underlying94 jQ rfl u rfl D (by omega) (by unfold maxLen;omega) (by have:=T;have:=f.size;omega) ?_)
  intro aj ak aw al y ax
  refine Wn 1 rfl (W.nil (E.jZ (E.jG (WC.region (Wa (.add rfl rfl (by omega)) rfl (Wn 1 rfl (W.nil ?_)))))))
  have am:=((B.le f).ch y (u.rl (by have:=hL.hS.lt;have:=m.size;have:=j.size;omega)))
  have an:=((S.le f).ch y (u.rl (by have:=hL.hH.lt;have:=m.size;have:=j.size;omega)))
  have ao:=((I.le f).ch y (Apart.symm (fun q K L=>by have:=(i.row K).2;have:=(u.row L).1;omega)))
  refine E.again (k+1,aj,ak) (.of rfl) ?_ ?_
  ·exact⟨by omega,((z.trans f).kI y (fun q hq=>Nat.le_trans l.size (u.row hq).1)),by have:=R;have:=f.size;have:=y.size;omega,am,an,(al.cast rfl (by rw[<-ES (by omega)];unfold zC;first|rfl|(rw[o];rfl))),ao⟩
  first|omega|(simp only[];omega)
 refine Cn rfl (dF U) (WC.exit (E.jJ (E.jJ (E.ko (E.jG (Sr (Wn 2 rfl (Nx (Rt (E.jI rfl rfl ?_))))))))))
 have hnl:=i.1;have ek:k=ls.length:=(by omega);have hq:=(H.mono l.size);rw[List.take_of_length_le (by omega)]at hq;subst ek;exact⟨_,_,_,rfl,ab,ac,hq,z⟩
end Go.Proofs.YtcaehidaejhdfaaGreat

namespace Go.Proofs.YtcaehidaejhdfaaGreat
open Tryz
open Go Go.Sx Go.Num Go.rZ Go.Lsp
set_option maxRecDepth 20000
theorem TS (n:Int)(w:World):Calls prog 48 #[.int .i64 (n)] w fun r w'=>r= .returned (.bool (!nu n))/\Le w w':=by
 refine enter func48 rfl rfl (Sr (Wn 1 rfl (Nx (Sr (Wn 1 rfl (W.cl Dm rfl rfl (qL n w) ?_))))))
 rintro _ c ⟨rfl,b⟩
 refine Wn 2 rfl (Nx (Rt (E.jI rfl rfl ?_)))
 exact⟨rfl,((Le.refl w).trans b)⟩

theorem Oa {Af:Option Addr}{nf cf:Nat}{fs:List Int}(w:World)(hf:Vec w iv 1 Af nf fs)(hn:nf<=1000000):Calls prog 93 #[.slice Af nf cf,.func (.func 48) #[] #[]] w fun r w'=>∃z:Int,r= .returned (.int .i64 z)/\((0<=z/\∃x∈fs,nu x=false)\/(z= -1/\∀x∈fs,nu x=true))/\Le w w':=by
 have hfn:=hf.1
 refine enter func93 rfl rfl (Sr (Wn 1 rfl (Nx (Sq (Sr (Wn 1 rfl (Wr (.len underlying67 rfl) rfl (Wn 1 rfl (Nx (WC.block (WC.loop (ι:=Nat) (fun k=>[(0,.slice Af nf cf),(1,.func (.func 48) #[] #[]),(7,.int .i64 ((nf:Nat):Int)),(8,.int .i64 ((k:Nat):Int))]) (fun k b=>(k<=nf)/\(∀j,j<k->nu (fs.getD j 0)=true)/\Le w b/\w.heap.size<=b.heap.size) (fun k=>nf-k) 0 ?_ ?_ ?_)))))))))))
 ·exact .of rfl
 ·exact⟨Nat.zero_le _,fun j hj=>by omega,(Le.refl w),Nat.le_refl _⟩
 rintro k b ⟨hk,hc,d,l⟩
 refine Sr (Wn 1 rfl (Nx (Sq ?_)))
 by_cases e:((k:Nat):Int)<((nf:Nat):Int)
 ·refine Cy rfl (dT e) (Sn (Sq (WC.block (Sr (Wn 2 rfl (Nx (Sr (Wn 3 rfl (Wa (.lL k underlying67 kz rfl rfl (hf.isSome kr (by omega)) rfl (by omega)) rfl (Wr (.pg (v:= .int .i64 (fs.getD k 0)) j5 rfl (hf.le d) kr (lF fs 0 (by omega)) rfl) rfl (W.cl aaV rfl rfl (TS (fs.getD k 0) b) ?_)))))))))))
  rintro _ m ⟨rfl,f⟩
  have i:=d.trans f
  refine Nx ?_
  by_cases c:(nu (fs.getD k 0))=true
  ·refine Cn rfl (congrArg not c) (WC.skip (E.jZ (E.jG (WC.region (Wa (.add rfl rfl (by omega)) rfl (Wn 1 rfl (W.nil (E.again (k+1) (.of rfl) ?_ ?_))))))))
   ·exact⟨by omega,fun j hj=>(Nat.lt_succ_iff_lt_or_eq.1 hj).elim (hc j) (fun hh=>by subst hh;exact c),i,by have:=l;have:=f.size;omega⟩
   first|omega|(simp only[];omega)
  refine Cy rfl (congrArg not (Bool.eq_false_iff.2 c)) (Sr (Wn 2 rfl (Nx (Rt (E.j4 (E.jH (E.jH (E.j4 (E.jH (E.jI rfl rfl ?_))))))))))
  exact⟨_,rfl,.inl ⟨by omega,fs.getD k 0,List.mem_of_getElem? (lF fs 0 (by omega)),Bool.eq_false_iff.2 c⟩,i⟩
 refine Cn rfl (dF e) (WC.exit (E.jJ (E.jJ (E.ko (E.jG (Sr (Wn 1 rfl (Nx (Rt (E.jI rfl rfl ?_))))))))))
 exact⟨_,rfl,.inr ⟨rfl,fun x hx=>by obtain⟨j,hj,rfl⟩:=List.getElem_of_mem hx;have:=hc j (by omega);rwa [List.getD_eq_getElem?_getD,List.getElem?_eq_getElem hj]at this⟩,d⟩

theorem K4 {Af:Option Addr}{nf cf:Nat}{fs:List Int}(w:World)(hf:Vec w iv 1 Af nf fs)(hn:nf<=1000000):Calls prog 47 #[.slice Af nf cf,.func (.func 48) #[] #[]] w fun r w'=>∃b:Bool,r= .returned (.bool b)/\(b=true↔∃x∈fs,nu x=false)/\Le w w':=by
 refine enter func47 rfl rfl ?_
 have d:=Le.refl w
 refine Sr (Wn 1 rfl (Nx (Sr (Wn 2 rfl (W.cl Yu rfl rfl (Oa w (hf.le d) (by omega)) ?_)))))
 rintro _ j ⟨k,rfl,f,i⟩
 refine Wn 2 rfl (Nx (Rt (E.jI rfl rfl ?_)))
 refine⟨_,rfl,?_,(d.trans i)⟩;rw[decide_eq_true_eq];rcases f with⟨e,c⟩|⟨e,c⟩;exact⟨fun _=>c,fun _=>e⟩;exact⟨fun h=>by omega,fun⟨x,hx,hh⟩=>by rw[c x hx]at hh;cases hh⟩

theorem Oc {Aa Ab:Option Addr}{na ca nb cb:Nat}{a b:List Int}(w:World)(ha:Vec w iv 1 Aa na a)(hb:Vec w iv 1 Ab nb b)(hn:na<=1000000):Calls prog 49 #[.slice Aa na ca,.slice Ab nb cb] w fun r w'=>r= .returned (.bool (decide (a=b)))/\Le w w':=by
 have han:=ha.1
 have hbn:=hb.1
 refine enter func49 rfl rfl ?_
 have l:=Le.refl w
 refine Sr (Wn 1 rfl (Nx (Sq (Sr (Wn 1 rfl (Wr (.len underlying67 rfl) rfl (Wn 1 rfl (Wr (.len underlying67 rfl) rfl (Wn 1 rfl (Nx ?_))))))))))
 by_cases f:((na:Nat):Int)≠((nb:Nat):Int)
 ·refine Cy rfl (dT f) (Sr (Wn 1 rfl (Nx (Rt (E.jH (E.jI rfl rfl ?_))))))
  exact⟨by rw[dF (fun e=>f (by rw[<-han,<-hbn,e]))],l⟩
 refine Cn rfl (dF f) (Sn (Sq (Sr (Wn 1 rfl (Wr (.len underlying67 rfl) rfl (Wn 1 rfl (Nx (WC.block (WC.loop (ι:=Nat) (fun k=>[(0,.slice Aa na ca),(1,.slice Ab nb cb),(12,.int .i64 ((na:Nat):Int)),(13,.int .i64 ((k:Nat):Int))]) (fun k i=>(k<=na)/\(∀j,j<k->a.getD j 0=b.getD j 0)/\Le w i/\w.heap.size<=i.heap.size) (fun k=>na-k) 0 ?_ ?_ ?_)))))))))
 ·exact .of rfl
 ·exact⟨Nat.zero_le _,fun j hj=>by omega,l,Nat.le_refl _⟩
 rintro k i ⟨hk,hs,m,s⟩
 refine Sr (Wn 1 rfl (Nx (Sq ?_)))
 by_cases n:((k:Nat):Int)<((na:Nat):Int)
 ·refine Cy rfl (dT n) (Sn (Sq (WC.block (Sr (Wn 2 rfl (Nx (Sq (WC.draw [0,1,2,3,4,5,6,7,8] mixed (by kernel_rfl) fun t o=>?_))))))))
  have c:=m.trans o
  refine Gn 2 rfl (Ga rfl (.lL k underlying67 kz rfl rfl (ha.isSome kr (by omega)) rfl (by omega)) (Gd rfl (.pg (v:= .int .i64 (a.getD k 0)) j5 rfl (ha.le c) kr (lF a 0 (by omega)) rfl) (Gn 2 rfl (Ga rfl (.lL k underlying67 kz rfl rfl (hb.isSome kr (by omega)) rfl (by omega)) (Gd rfl (.pg (v:= .int .i64 (b.getD k 0)) j5 rfl (hb.le c) kr (lF b 0 (by omega)) rfl) ?_)))))
  refine Gn 1 rfl (G.nil (E.jG ?_))
  by_cases d:(a.getD k 0)≠(b.getD k 0)
  ·refine Cy rfl (dT d) (Sr (Wn 1 rfl (Nx (Rt (E.j4 (E.jH (E.jH (E.j4 (E.jH (E.jI rfl rfl ?_))))))))))
   exact⟨by rw[dF (fun e=>d (by rw[e]))],c⟩
  refine Cn rfl (dF d) (WC.skip (E.jZ (E.jG (WC.region (Wa (.add rfl rfl (by omega)) rfl (Wn 1 rfl (W.nil (E.again (k+1) (.of rfl) ?_ ?_))))))))
  ·exact⟨by omega,fun j hj=>(Nat.lt_succ_iff_lt_or_eq.1 hj).elim (hs j) (fun hh=>by subst hh;exact Classical.not_not.1 d),c,by have:=s;have:=o.size;omega⟩
  first|omega|(simp only[];omega)
 refine Cn rfl (dF n) (WC.exit (E.jJ (E.jJ (E.ko (E.jG (Sr (Wn 1 rfl (Nx (Rt (E.jI rfl rfl ?_))))))))))
 exact⟨by rw[dT (Pq (z:=(0:Int)) (by omega) (fun j hj=>hs j (by omega)))],m⟩
end Go.Proofs.YtcaehidaejhdfaaGreat

namespace Go.Proofs.YtcaehidaejhdfaaGreat
open Tryz
open Go Go.Sx Go.Num Go.rZ Go.Lsp
set_option maxRecDepth 20000
theorem TT {gp gs gh c cs ck:Nat}{A:Option Addr}{own:List Int}{ls:SM}{lh:HM}{lost:Int}{Ao As Af:Option Addr}{no co ns cS nf cf:Nat}{old fee:List Int}{seats:List Seat}(w:World)(hL:mf w gp gs gh A c cs ck own ls lh lost)(ho:Vec w iv 1 Ao no old)(hs:Vec w jT 5 As ns seats)(hf:Vec w iv 1 Af nf fee)(hno:no<=1000)(hns:ns<=1000)(hnf:nf<=1000)(hoa:∀q,lU Ao=some q->0<no->q<w.heap.size->¬LF gp gs gh A c q)(hsa:∀q,lU As=some q->0<ns->q<w.heap.size->¬LF gp gs gh A c q)(hfa:∀q,lU Af=some q->0<nf->q<w.heap.size->¬LF gp gs gh A c q)(hb:∀x∈lh,0<=x.2.2.am)(hq:∀ch side,kE lh ch side<=1125899906842624)(U2:∀x∈ls,nN own.length x.2.2)(hl:0<=lost/\lost<=1125899906842624):Calls prog 21 #[.pointer (some ⟨gp,0,none⟩),.slice Ao no co,.slice As ns cS,.slice Af nf cf] w fun r w'=>ll w w' (LF gp gs gh A c)/\r= .returned (.int .i64 (rP own.length ls lh old seats fee))/\((rP own.length ls lh old seats fee≠0/\mf w' gp gs gh A c cs ck own ls lh lost)\/(rP own.length ls lh old seats fee=0/\mf w' gp gs gh A c (y9 ls cs old seats).2 ck own (y9 ls cs old seats).1 lh (lost+fee.sum))):=by
 have aS:=hL.hp
 have aT:=hL.hO
 have aU:=hL.hS
 have aV:=hL.hH
 have Y:=hL.ps
 have n2:=hL.ph
 have n3:=hL.sh
 have n4:=hL.op
 have n5:=hL.os
 have n6:=hL.oh
 have hon:=ho.1
 have hsn:=hs.1
 have hfn:=hf.1
 refine enter func21 rfl rfl ?_
 have L0:=ll.refl w (LF gp gs gh A c)
 refine Sr (Wn 1 rfl (Nx (Sr (W.ef rfl rfl rfl (Ef.xQ sw Value.bool fun N gX cK aW D=>?_)))))
 have L1:=L0.le D
 refine W.ef rfl rfl rfl (Ef.xQ sw Value.bool fun a8 dK b1 dL ak=>(Wn 2 rfl (Nx (Sq (Sr (Wn 1 rfl (Wr (.len underlying67 rfl) rfl (Wn 1 rfl (Nx (WC.block ?_))))))))))
 refine WC.loop (ι:=Nat×BM×Nat) (fun⟨k,lg,cg⟩=>[(0,.pointer (some ⟨gp,0,none⟩)),(1,.slice Ao no co),(2,.slice As ns cS),(3,.slice Af nf cf),(9,.map (some N)),(10,.map (some a8)),(38,.slice Ao no co),(39,.int .i64 ((no:Nat):Int)),(40,.int .i64 ((k:Nat):Int))]) (fun⟨k,lg,cg⟩ al=>(k<=no)/\(Marks lg (old.take k))/\ll w al (LF gp gs gh A c)/\dK.heap.size<=al.heap.size/\jL al gp 132 #[.slice A own.length c,.map (some gs),.map (some gh),.int .i64 (lost)]/\jO al 0 3 iv 1 A own.length c own/\kH al sw mK gs ls cs/\kH al Bg oK gh lh ck/\kH al sw Value.bool N lg cg/\kH al sw Value.bool a8 ([]) 0) (fun⟨k,lg,cg⟩=>no-k) (0,[],0) ?_ ?_ ?_
 ·exact .of rfl
 ·exact⟨Nat.zero_le _,Marks.nil,(L1.le ak),Nat.le_refl _,(aS.le (D.trans ak)),(aT.le (D.trans ak)),(aU.le (D.trans ak)),(aV.le (D.trans ak)),(aW.le ak),dL⟩
 rintro⟨k,lg,cg⟩ al ⟨hk,hmk,a9,ba,bb,bm,bn,bo,bc,bp⟩
 refine Sr (Wn 1 rfl (Nx (Sq ?_)))
 by_cases c0:((k:Nat):Int)<((no:Nat):Int)
 ·refine Cy rfl (dT c0) (Sn (Sq (WC.block (Sr (Wa (.lL k underlying67 kz rfl rfl (ho.isSome kr (by omega)) rfl (by omega)) rfl (Wr (.pg (v:= .int .i64 (old.getD k 0)) j5 rfl (ho.kX a9 hoa) kr (lF old 0 (by omega)) rfl) rfl (Wn 1 rfl (Nx (WC.region (Wn 2 rfl ?_))))))))))
  rcases optG (jW (old.getD k 0) lg)with bq|⟨gY,bq⟩
  ·refine W.kP rfl rfl (Ef.yB (key:=(old.getD k 0)) (u:=true) underlying144 oU rfl rfl rfl bc bq fun dM dN aX=>?_)
   have L8:ll w dM (LF gp gs gh A c):=a9.ch aX (fun i hi hlt=>by cases hi;exact absurd hlt (by have:=L0.size;have:=cK;omega))
   refine W.nil (E.jZ (E.jG (WC.region (Wa (.add rfl rfl (by omega)) rfl (Wn 1 rfl (W.nil ?_))))))
   have f9:=(bb.cn aX (by have:=aS.lt;omega))
   have dO:=(bm.cb aX (aT.rn (by omega)))
   have dP:=(bn.cn aX (by have:=aU.lt;omega))
   have dQ:=(bo.cn aX (by have:=aV.lt;omega))
   have dR:=(bp.cn aX (by have:=aW.lt;omega))
   refine E.again (k+1,(lg++[(cg,(old.getD k 0),true)]),(cg+1)) (.of rfl) ?_ ?_
   ·exact⟨by omega,by rw[ru (z:=0) (by omega)];exact hmk.new bq,L8,by have:=ba;have:=aX.size;omega,f9,dO,dP,dQ,dN,dR⟩
   first|omega|(simp only[];omega)
  refine W.kP rfl rfl (Ef.wQ (key:=(old.getD k 0)) (u:=true) underlying144 oU rfl rfl rfl bc x8 bq fun dS dU aY=>?_)
  have dV:ll w dS (LF gp gs gh A c):=a9.ch aY (fun i hi hlt=>by cases hi;exact absurd hlt (by have:=L0.size;have:=cK;omega))
  refine W.nil (E.jZ (E.jG (WC.region (Wa (.add rfl rfl (by omega)) rfl (Wn 1 rfl (W.nil ?_))))))
  have dW:=(bb.cn aY (by have:=aS.lt;omega))
  have dX:=(bm.cb aY (aT.rn (by omega)))
  have dY:=(bn.cn aY (by have:=aU.lt;omega))
  have dZ:=(bo.cn aY (by have:=aV.lt;omega))
  have d0:=(bp.cn aY (by have:=aW.lt;omega))
  refine E.again (k+1,(lg.map fun y=>if y.2.1=(old.getD k 0)then(y.1,(old.getD k 0),true)else y),cg) (.of rfl) ?_ ?_
  ·exact⟨by omega,by rw[ru (z:=0) (by omega)];exact hmk.old bq,dV,by have:=ba;have:=aY.size;omega,dW,dX,dY,dZ,dU,d0⟩
  first|omega|(simp only[];omega)
 refine Cn rfl (dF c0) ?_
 have hmo:Marks lg old:=(by rw[List.take_of_length_le (by omega)]at hmk;exact hmk)
 have hnd:=hmo.2.2
 refine WC.exit (E.jJ (E.jJ (E.ko (E.jG (WC.cut (ι:=Bool) (fun bad=>[(0,.pointer (some ⟨gp,0,none⟩)),(1,.slice Ao no co),(2,.slice As ns cS),(3,.slice Af nf cf),(9,.map (some N)),(10,.map (some a8)),(13,.bool bad)]) (fun bad an=>(bad=true↔¬(old.Nodup/\seats.length<=40/\fee.length=own.length))/\ll w an (LF gp gs gh A c)/\al.heap.size<=an.heap.size/\jL an gp 132 #[.slice A own.length c,.map (some gs),.map (some gh),.int .i64 (lost)]/\jO an 0 3 iv 1 A own.length c own/\kH an sw mK gs ls cs/\kH an Bg oK gh lh ck/\kH an sw Value.bool N lg cg/\kH an sw Value.bool a8 ([]) 0) ?_ ?_)))))
 ·refine WC.region (Wn 1 rfl (Wr (.Vn underlying144 rfl bc) rfl (Wn 1 rfl (Wr (.len underlying67 rfl) rfl (Wn 1 rfl ?_)))))
  by_cases cL:((lg.length:Nat):Int)≠((no:Nat):Int)
  ·refine Dt cL rfl rfl (Wn 15 rfl (W.nil (E.meet true (.of rfl) ?_)))
   exact⟨⟨fun _=>by rw[<-hnd];omega,fun _=>rfl⟩,a9,Nat.le_refl _,bb,bm,bn,bo,bc,bp⟩
  refine Df cL rfl rfl (Wn 1 rfl (Wg (.len underlying94 rfl) rfl (Wn 2 rfl ?_)))
  by_cases cM:40<((ns:Nat):Int)
  ·refine Dt cM rfl rfl (Wn 10 rfl (W.nil (E.meet true (.of rfl) ?_)))
   exact⟨⟨fun _=>by rw[<-hnd];omega,fun _=>rfl⟩,a9,Nat.le_refl _,bb,bm,bn,bo,bc,bp⟩
  refine Df cM rfl rfl (Wn 1 rfl (Wg (.len underlying67 rfl) rfl (Wn 1 rfl (Wg (Any.rd (.nilCheck rfl) _) rfl (Wg (Any.rd (.jE tV rfl) _) rfl (Wg (.jF (v:= .slice A own.length c) Hy rfl bb rfl) rfl ?_))))))
  refine Wg (.len underlying67 rfl) rfl (Wn 3 rfl (W.nil (E.meet (decide (((nf:Nat):Int)≠((own.length:Nat):Int))) (.of rfl) ?_)))
  exact⟨by rw[decide_eq_true_eq,<-hnd];omega,a9,Nat.le_refl _,bb,bm,bn,bo,bc,bp⟩
 rintro bad an ⟨hbad,d1,b2,d2,d3,d4,d5,d6,d7⟩
 refine Sq (Sr (Wn 1 rfl (Wr (.len underlying94 rfl) rfl (Wn 1 rfl (Nx (WC.block ?_))))))
 refine WC.loop (ι:=Nat×Bool×BM×Nat) (fun⟨k1,bd,lc,cc⟩=>[(0,.pointer (some ⟨gp,0,none⟩)),(1,.slice Ao no co),(2,.slice As ns cS),(3,.slice Af nf cf),(9,.map (some N)),(10,.map (some a8)),(13,.bool bd),(67,.slice As ns cS),(68,.int .i64 ((ns:Nat):Int)),(69,.int .i64 ((k1:Nat):Int))]) (fun⟨k1,bd,lc,cc⟩ ao=>(k1<=ns)/\(bd=true↔¬((old.Nodup/\seats.length<=40/\fee.length=own.length)/\nW own.length (seats.take k1)))/\(Marks lc (chans (seats.take k1)))/\ll w ao (LF gp gs gh A c)/\an.heap.size<=ao.heap.size/\jL ao gp 132 #[.slice A own.length c,.map (some gs),.map (some gh),.int .i64 (lost)]/\jO ao 0 3 iv 1 A own.length c own/\kH ao sw mK gs ls cs/\kH ao Bg oK gh lh ck/\kH ao sw Value.bool N lg cg/\kH ao sw Value.bool a8 lc cc) (fun⟨k1,bd,lc,cc⟩=>ns-k1) (0,bad,[],0) ?_ ?_ ?_
 ·exact .of rfl
 ·exact⟨Nat.zero_le _,by rw[hbad];simp[nW,chans],Marks.nil,d1,Nat.le_refl _,d2,d3,d4,d5,d6,d7⟩
 rintro⟨k1,bd,lc,cc⟩ ao ⟨gZ,hbd,hmc,be,aE,R,S,T,U,Z,aF⟩
 refine Sr (Wn 1 rfl (Nx (Sq ?_)))
 by_cases c1:((k1:Nat):Int)<((ns:Nat):Int)
 ·refine Cy rfl (dT c1) (Sn (Sq (WC.block (Sr (Wa (.lL k1 underlying94 rQ rfl rfl (hs.isSome jQ (by omega)) rfl (by omega)) rfl (Wr (.tH wW rfl (hs.kX be hsa) jQ (lF seats jM (by omega))) rfl (W.ef rfl rfl rfl (Ef.jR z70 ?_))))))))
  intro cN d8 d9 ce B
  have ea:=be.le B
  have ce:jL d8 cN 70 (jT jM).toArray:=ce
  refine W.kP rfl rfl (Ef.storeAll rQ (by rfl) rfl rfl ce (by simp only[List.size_toArray,jQ.len]) (jQ.one (seats.getD k1 jM)) ?_)
  intro ci aZ C
  have aZ:jL ci cN 70 (jT (seats.getD k1 jM)).toArray:=aZ
  have b3:ll w ci (LF gp gs gh A c):=ea.ch C (fun i hi hlt=>by cases hi;exact absurd hlt (by have:=be.size;have:=d9;omega))
  refine Nx (Sr (Wn 1 rfl ?_))
  by_cases bs:bd=true
  ·refine Wa (.dec (.move rfl) bs) rfl (Wn 12 rfl (Nx (WC.region (Wn 1 rfl (Wa (.jE uE rfl) rfl (Wr (.jF (v:= .int .i64 ((seats.getD k1 jM).ch)) j5 rfl aZ rfl) rfl ?_))))))
   rcases optG (jW ((seats.getD k1 jM).ch) lc)with bt|⟨g0,bt⟩
   ·have eb:=((aF.le B).cn C (by have:=aF.lt;omega))
    refine W.kP rfl rfl (Ef.yB (key:=((seats.getD k1 jM).ch)) (u:=true) underlying144 oU rfl rfl rfl eb bt fun ec ed a0=>?_)
    have ee:ll w ec (LF gp gs gh A c):=b3.ch a0 (fun i hi hlt=>by cases hi;exact absurd hlt (by have:=L1.size;have:=b1;omega))
    refine W.nil (E.jZ (E.jG (WC.region (Wa (.add rfl rfl (by omega)) rfl (Wn 1 rfl (W.nil ?_))))))
    have eg:=(((R.le B).cn C (by have:=R.lt;omega)).cn a0 (by have:=aS.lt;have:=D.size;omega))
    have eh:=(((S.le B).cb C (S.rn (by omega))).cb a0 (aT.rn (by have:=D.size;omega)))
    have ei:=(((T.le B).cn C (by have:=T.lt;omega)).cn a0 (by have:=aU.lt;have:=D.size;omega))
    have ej:=(((U.le B).cn C (by have:=U.lt;omega)).cn a0 (by have:=aV.lt;have:=D.size;omega))
    have ek:=(((Z.le B).cn C (by have:=Z.lt;omega)).cn a0 (by have:=aW.lt;omega))
    refine E.again (k1+1,true,(lc++[(cc,((seats.getD k1 jM).ch),true)]),(cc+1)) (.of rfl) ?_ ?_
    ·exact⟨by omega,Js (by omega) hbd bs,by rw[uB (by omega)];exact hmc.new bt,ee,by have:=aE;have:=B.size;have:=C.size;have:=a0.size;omega,eg,eh,ei,ej,ek,ed⟩
    first|omega|(simp only[];omega)
   refine W.kP rfl rfl (Ef.wQ (key:=((seats.getD k1 jM).ch)) (u:=true) underlying144 oU rfl rfl rfl ((aF.le B).cn C (by have:=aF.lt;omega)) x8 bt ?_)
   intro el em a1
   have en:ll w el (LF gp gs gh A c):=b3.ch a1 (fun i hi hlt=>by cases hi;exact absurd hlt (by have:=L1.size;have:=b1;omega))
   refine W.nil (E.jZ (E.jG (WC.region (Wa (.add rfl rfl (by omega)) rfl (Wn 1 rfl (W.nil ?_))))))
   have eo:=(((R.le B).cn C (by have:=R.lt;omega)).cn a1 (by have:=aS.lt;have:=D.size;omega))
   have ep:=(((S.le B).cb C (S.rn (by omega))).cb a1 (aT.rn (by have:=D.size;omega)))
   have er:=(((T.le B).cn C (by have:=T.lt;omega)).cn a1 (by have:=aU.lt;have:=D.size;omega))
   have es:=(((U.le B).cn C (by have:=U.lt;omega)).cn a1 (by have:=aV.lt;have:=D.size;omega))
   have et:=(((Z.le B).cn C (by have:=Z.lt;omega)).cn a1 (by have:=aW.lt;omega))
   refine E.again (k1+1,true,(lc.map fun y=>if y.2.1=((seats.getD k1 jM).ch)then(y.1,((seats.getD k1 jM).ch),true)else y),cc) (.of rfl) ?_ ?_
   ·exact⟨by omega,Js (by omega) hbd bs,by rw[uB (by omega)];exact hmc.old bt,en,by have:=aE;have:=B.size;have:=C.size;have:=a1.size;omega,eo,ep,er,es,et,em⟩
   first|omega|(simp only[];omega)
  refine Wa (.dec (.move rfl) (Bool.eq_false_iff.2 bs)) rfl (Wn 1 rfl (Wg (Any.rd (.jE uE rfl) _) rfl (Wg (.jF (v:= .int .i64 ((seats.getD k1 jM).ch)) j5 rfl aZ rfl) rfl ?_)))
  rcases optG (jW ((seats.getD k1 jM).ch) lc)with ap|⟨g1,ap⟩
  ·have cO:=((aF.le B).cn C (by have:=aF.lt;omega))
   refine Wg (.as (.tQ (key:=((seats.getD k1 jM).ch)) underlying144 oU z4 rfl rfl cO) (by rw[ap]<;>rfl)) rfl ?_
   refine Wn 3 rfl (Wg (.jK wW (by rfl) rfl aZ) rfl ?_)
   have cP:=((R.le B).cn C (by have:=R.lt;omega))
   have cQ:=((S.le B).cb C (S.rn (by omega)))
   have cR:=((T.le B).cn C (by have:=T.lt;omega))
   have cT:=((U.le B).cn C (by have:=U.lt;omega))
   refine W.mY rfl rfl rfl rfl rfl rfl (Ef.call Ye rfl rfl (Mo (seats.getD k1 jM) ci (mf.mk cP cQ cR cT Y n2 n3 n4 n5 n6)) ?_)
   rintro _ g2 ⟨eu,rfl,ew,ax⟩
   refine⟨_,rfl,?_⟩
   have ex:=b3.le ax
   refine Wn 3 rfl (Nx (WC.region (Wn 1 rfl (Wa (.jE uE rfl) rfl (Wr (.jF (v:= .int .i64 ((seats.getD k1 jM).ch)) j5 rfl (aZ.le ax) rfl) rfl (W.kP rfl rfl (Ef.yB (key:=((seats.getD k1 jM).ch)) (u:=true) underlying144 oU rfl rfl rfl (cO.le ax) ap fun ey ez a2=>?_)))))))
   have eA:ll w ey (LF gp gs gh A c):=ex.ch a2 (fun i hi hlt=>by cases hi;exact absurd hlt (by have:=L1.size;have:=b1;omega))
   refine W.nil (E.jZ (E.jG (WC.region (Wa (.add rfl rfl (by omega)) rfl (Wn 1 rfl (W.nil ?_))))))
   have eB:=((cP.le ax).cn a2 (by have:=aS.lt;have:=D.size;omega))
   have eC:=((cQ.le ax).cb a2 (aT.rn (by have:=D.size;omega)))
   have eD:=((cR.le ax).cn a2 (by have:=aU.lt;have:=D.size;omega))
   have eE:=((cT.le ax).cn a2 (by have:=aV.lt;have:=D.size;omega))
   have eF:=((((Z.le B).cn C (by have:=Z.lt;omega)).le ax).cn a2 (by have:=aW.lt;omega))
   refine E.again (k1+1,(!(eu)),(lc++[(cc,((seats.getD k1 jM).ch),true)]),(cc+1)) (.of rfl) ?_ ?_
   ·exact⟨by omega,PL (by omega) hbd bs (hmc.not ap) ew,by rw[uB (by omega)];exact hmc.new ap,eA,by have:=aE;have:=B.size;have:=C.size;have:=ax.size;have:=a2.size;omega,eB,eC,eD,eE,eF,ez⟩
   first|omega|(simp only[];omega)
  have cU:=((aF.le B).cn C (by have:=aF.lt;omega))
  refine Wg (.as (.tQ (key:=((seats.getD k1 jM).ch)) underlying144 oU z4 rfl rfl cU) (by rw[ap]<;>rfl)) rfl ?_
  refine Wn 1 rfl (Wa (.dec (.move rfl) ((hmc.val ap).1)) rfl (Wn 6 rfl (Nx (WC.region (Wn 1 rfl (Wa (.jE uE rfl) rfl (Wr (.jF (v:= .int .i64 ((seats.getD k1 jM).ch)) j5 rfl aZ rfl) rfl (W.kP rfl rfl ?_))))))))
  refine Ef.wQ (key:=((seats.getD k1 jM).ch)) (u:=true) underlying144 oU rfl rfl rfl cU x8 ap fun eG eH a3=>?_
  have eI:ll w eG (LF gp gs gh A c):=b3.ch a3 (fun i hi hlt=>by cases hi;exact absurd hlt (by have:=L1.size;have:=b1;omega))
  refine W.nil (E.jZ (E.jG (WC.region (Wa (.add rfl rfl (by omega)) rfl (Wn 1 rfl (W.nil ?_))))))
  have eJ:=(((R.le B).cn C (by have:=R.lt;omega)).cn a3 (by have:=aS.lt;have:=D.size;omega))
  have eK:=(((S.le B).cb C (S.rn (by omega))).cb a3 (aT.rn (by have:=D.size;omega)))
  have eL:=(((T.le B).cn C (by have:=T.lt;omega)).cn a3 (by have:=aU.lt;have:=D.size;omega))
  have eM:=(((U.le B).cn C (by have:=U.lt;omega)).cn a3 (by have:=aV.lt;have:=D.size;omega))
  have eN:=(((Z.le B).cn C (by have:=Z.lt;omega)).cn a3 (by have:=aW.lt;omega))
  refine E.again (k1+1,true,(lc.map fun y=>if y.2.1=((seats.getD k1 jM).ch)then(y.1,((seats.getD k1 jM).ch),true)else y),cc) (.of rfl) ?_ ?_
  ·exact⟨by omega,Nk (by omega) (hmc.val ap).2,by rw[uB (by omega)];exact hmc.old ap,eI,by have:=aE;have:=B.size;have:=C.size;have:=a3.size;omega,eJ,eK,eL,eM,eN,eH⟩
  first|omega|(simp only[];omega)
 refine Cn rfl (dF c1) ?_
 have cj:=hbd
 rw[List.take_of_length_le (by omega)]at cj
 refine WC.exit (E.jJ (E.jJ (E.ko (E.jG (Sq (Sr (Wn 1 rfl ?_)))))))
 by_cases b4:bd=true
 ·refine Wa (.dec (.move rfl) b4) rfl (Wn 3 rfl (Nx (WC.jS rfl (Sr (Wn 1 rfl (Nx (Rt (E.jH (E.jI rfl rfl ?_)))))))))
  have e9:rP own.length ls lh old seats fee=1:=SN cj b4;exact⟨be,by rw[e9],.inl ⟨by rw[e9];decide,⟨R,S,T,U,Y,n2,n3,n4,n5,n6⟩⟩⟩
 refine Wa (.dec (.move rfl) (Bool.eq_false_iff.2 b4)) rfl (Wn 1 rfl (W.mY rfl rfl rfl rfl rfl rfl (Ef.call Yh rfl rfl (K4 ao (hf.kX be hfa) (by omega)) ?_)))
 rintro _ aa ⟨eO,rfl,cV,l⟩
 refine⟨_,rfl,?_⟩
 have bf:=be.le l
 refine Wn 1 rfl (Nx ?_)
 by_cases c2:eO=true
 ·refine Cy rfl c2 (Sr (Wn 1 rfl (Nx (Rt (E.jH ?_)))))
  have eP:=(R.le l)
  have eQ:=(S.le l)
  have eR:=(T.le l)
  have eS:=(U.le l)
  refine E.jI rfl rfl ?_
  have e9:rP own.length ls lh old seats fee=1:=SQ cV c2;exact⟨bf,by rw[e9],.inl ⟨by rw[e9];decide,⟨eP,eQ,eR,eS,Y,n2,n3,n4,n5,n6⟩⟩⟩
 refine Cn rfl (Bool.eq_false_iff.2 c2) ?_
 have hok:xx own.length old seats fee:=Vs cj b4 cV c2
 have hfo:=hok.1.2.2
 refine Sn (Sr (Wn 1 rfl (Wr (.len underlying67 rfl) rfl (W.ef rfl rfl rfl (Ef.Xm 0 nf underlying67 Mf kr rfl rfl rfl rfl rfl (by omega) (by unfold maxLen;omega) ?_)))))
 intro ab eT g3 ay ac
 refine Wn 1 rfl (Nx (Sr (Wn 1 rfl (Nx (Sq (Sr (Wn 1 rfl (Wr (.len underlying67 rfl) rfl (Wn 1 rfl (Nx (WC.block ?_)))))))))))
 refine WC.loop (ι:=Nat×Bool) (fun⟨k2,held⟩=>[(0,.pointer (some ⟨gp,0,none⟩)),(1,.slice Ao no co),(2,.slice As ns cS),(3,.slice Af nf cf),(9,.map (some N)),(16,.slice (some ⟨ab,0,none⟩) nf nf),(17,.bool held),(98,.slice Ao no co),(99,.int .i64 ((no:Nat):Int)),(100,.int .i64 ((k2:Nat):Int))]) (fun⟨k2,held⟩ ad=>(k2<=no)/\(∀i,i<k2->∃t,jW (old.getD i 0) ls=some t)/\(held=true↔∃i,i<k2/\A8 lh (old.getD i 0))/\ll w ad (LF gp gs gh A c)/\eT.heap.size<=ad.heap.size/\jL ad gp 132 #[.slice A own.length c,.map (some gs),.map (some gh),.int .i64 (lost)]/\jO ad 0 3 iv 1 A own.length c own/\kH ad sw mK gs ls cs/\kH ad Bg oK gh lh ck/\kH ad sw Value.bool N lg cg/\jO ad aa.heap.size 3 iv 1 (some ⟨ab,0,none⟩) nf nf (l9 own.length ls (old.take k2))) (fun⟨k2,held⟩=>no-k2) (0,false) ?_ ?_ ?_
 ·exact .of rfl
 ·exact⟨Nat.zero_le _,fun i hi=>by omega,⟨fun h=>(by cases h),fun⟨i,hi,_⟩=>(by omega)⟩,(bf.le ac),Nat.le_refl _,(R.le (l.trans ac)),(S.le (l.trans ac)),(T.le (l.trans ac)),(U.le (l.trans ac)),(Z.le (l.trans ac)),(ay.cast rfl (by unfold l9;rw[show nf=own.length by omega];rfl))⟩
 rintro⟨k2,held⟩ ad ⟨g4,hth,hhd,a4,b5,az,aG,aq,aH,bu,a5⟩
 have cm:aa.heap.size<=ad.heap.size:=by have:=ac.size;omega
 have hgb:=Ma U2 k2 (by omega) hth
 refine Sr (Wn 1 rfl (Nx (Sq ?_)))
 by_cases c3:((k2:Nat):Int)<((no:Nat):Int)
 ·refine Cy rfl (dT c3) (Sn (Sq (WC.block (Sr (Wa (.lL k2 underlying67 kz rfl rfl (ho.isSome kr (by omega)) rfl (by omega)) rfl (Wr (.pg (v:= .int .i64 (old.getD k2 0)) j5 rfl (ho.kX a4 hoa) kr (lF old 0 (by omega)) rfl) rfl (Wn 1 rfl (Nx (Sr (Wn 1 rfl (Wa (.nilCheck rfl) rfl ?_)))))))))))
  refine Wa (.jE mM rfl) rfl (Wr (.jF (v:= .map (some gs)) rR rfl az rfl) rfl (Wn 1 rfl ?_))
  rcases optG (jW (old.getD k2 0) ls)with aA|⟨f,aA⟩
  ·refine Wr (.as (.mi (key:=(old.getD k2 0)) underlying129 oU z70 rfl rfl aq) (by rw[aA]<;>rfl)) rfl ?_
   refine Wn 1 rfl (Wa (.extract (v:= .agg (jT jM).toArray) rfl rfl) rfl (Wn 1 rfl (W.ef rfl rfl rfl (Ef.jR z70 fun eU eV eW (eX:jL eV eU 70 (jT jM).toArray) bv=>?_))))
   have eY:=a4.le bv
   refine W.kP rfl rfl (Ef.storeAll rQ (by rfl) rfl rfl eX (by simp only[List.size_toArray,jQ.len]) (jQ.one jM) ?_)
   intro eZ g5 bw
   have e0:ll w eZ (LF gp gs gh A c):=eY.ch bw (fun i hi hlt=>by cases hi;exact absurd hlt (by have:=a4.size;have:=eW;omega))
   refine Wn 1 rfl (Nx (Sq (Sr (Wn 2 rfl (Nx (WC.jS rfl (Sr (Wn 1 rfl (Nx (Rt (E.jH (E.j4 (E.jH (E.jH (E.j4 (E.jH ?_))))))))))))))))
   have fa:=((az.le bv).cn bw (by have:=az.lt;omega))
   have fb:=((aG.le bv).cb bw (aG.rn (by omega)))
   have fc:=((aq.le bv).cn bw (by have:=aq.lt;omega))
   have fd:=((aH.le bv).cn bw (by have:=aH.lt;omega))
   refine E.jI rfl rfl ?_
   have e9:rP own.length ls lh old seats fee=5:=Vt hok (by omega) aA;exact⟨e0,by rw[e9],.inl ⟨by rw[e9];decide,⟨fa,fb,fc,fd,Y,n2,n3,n4,n5,n6⟩⟩⟩
  obtain⟨bh,Mq⟩:=oQ aA
  have hso:nN own.length f:=U2 _ Mq
  refine Wr (.as (.mi (key:=(old.getD k2 0)) underlying129 oU z70 rfl rfl aq) (by rw[aA]<;>rfl)) rfl ?_
  refine Wn 1 rfl (Wa (.extract (v:= .agg (jT f).toArray) rfl rfl) rfl (Wn 1 rfl (W.ef rfl rfl rfl (Ef.jR z70 fun bg fe ff (fg:jL fe bg 70 (jT jM).toArray) O=>?_))))
  have fh:=a4.le O
  refine W.kP rfl rfl (Ef.storeAll rQ (by rfl) rfl rfl fg (by simp only[List.size_toArray,jQ.len]) (jQ.one f) ?_)
  intro b6 bx P
  have bx:jL b6 bg 70 (jT f).toArray:=bx
  have cW:ll w b6 (LF gp gs gh A c):=fh.ch P (fun i hi hlt=>by cases hi;exact absurd hlt (by have:=a4.size;have:=ff;omega))
  refine Wn 1 rfl (Nx (Sq (Sr (Wn 2 rfl (Nx (WC.kF rfl (Sn (Sr (Wn 1 rfl ?_)))))))))
  by_cases b7:held=true
  ·refine Wa (.dec (.move rfl) b7) rfl (Wn 6 rfl (Nx (Sr (Wa (.jE tC rfl) rfl (Wr (.mV [.int .i64 f.p0,.int .i64 (f.p1)] vY rfl (by decide) rfl bx rfl) rfl (Wn 1 rfl (Nx (WC.block ?_))))))))
   refine WC.loop (ι:=Nat) (fun d=>[(0,.pointer (some ⟨gp,0,none⟩)),(1,.slice Ao no co),(2,.slice As ns cS),(3,.slice Af nf cf),(9,.map (some N)),(16,.slice (some ⟨ab,0,none⟩) nf nf),(17,.bool true),(20,.pointer (some ⟨bg,0,none⟩)),(98,.slice Ao no co),(99,.int .i64 ((no:Nat):Int)),(100,.int .i64 ((k2:Nat):Int)),(123,.agg #[.int .i64 f.p0,.int .i64 (f.p1)]),(124,.int .i64 ((d:Nat):Int))]) (fun d F=>(d<=2)/\ll w F (LF gp gs gh A c)/\b6.heap.size<=F.heap.size/\jL F gp 132 #[.slice A own.length c,.map (some gs),.map (some gh),.int .i64 (lost)]/\jO F 0 3 iv 1 A own.length c own/\kH F sw mK gs ls cs/\kH F Bg oK gh lh ck/\kH F sw Value.bool N lg cg/\jO F aa.heap.size 3 iv 1 (some ⟨ab,0,none⟩) nf nf (rX (l9 own.length ls (old.take k2)) f d)/\jL F bg 70 (jT f).toArray) (fun d=>2-d) 0 ?_ ?_ ?_
   ·exact .of rfl
   ·exact⟨Nat.zero_le _,cW,Nat.le_refl _,((az.le O).cn P (by have:=az.lt;omega)),((aG.le O).cb P (aG.rn (by omega))),((aq.le O).cn P (by have:=aq.lt;omega)),((aH.le O).cn P (by have:=aH.lt;omega)),((bu.le O).cn P (by have:=bu.lt;omega)),((a5.le O).cb P (a5.rn (by omega))),bx⟩
   rintro d F ⟨cp,bz,bA,bB,bC,bD,bE,bF,bG,cq⟩
   have fi:aa.heap.size<=F.heap.size:=Nat.le_trans cm (by have:=O.size;have:=P.size;omega)
   have hpz:=hso.1
   have hab:=AY hso.2.2.2.1 hso.2.2.2.2 hgb d cp
   refine Sr (Wn 1 rfl (Nx (Sq ?_)))
   by_cases c5:((d:Nat):Int)<2
   ·refine Cy rfl (dT c5) (Sn (Sq (WC.block (Sr (Wn 1 rfl (Wa (.sU (v:= .int .i64 (f.p d)) d underlying52 kz j5 rfl rfl rfl (by omega) (wo f (by omega))) rfl (Wn 2 rfl (Nx (WC.draw [0,1,2,3,4,5,6,7,8,9,10] mixed (by kernel_rfl) fun fj K=>?_)))))))))
    have fk:=bz.le K
    refine Gn 2 rfl (Ga rfl (.lL ((f.p d).toNat) underlying67 kz rfl rfl (ay.vec.isSome kr (by omega)) (by have:=(ku hso (k:=d) (by omega)).1;omega) (by have:=(ku hso (k:=d) (by omega)).1;omega)) ?_)
    have aI:=(bG.le K)
    refine Gd rfl (.pg (v:= .int .i64 ((rX (l9 own.length ls (old.take k2)) f d).getD ((f.p d).toNat) 0)) j5 rfl aI.vec kr (lF (rX (l9 own.length ls (old.take k2)) f d) 0 (by rw[uC,rz];have:=(ku hso (k:=d) (by omega)).1;omega)) rfl) ?_
    refine Gn 1 rfl (Ga rfl (.jE lZ rfl) (Ga rfl (.j3 d underlying52 kz rfl rfl rfl (by omega)) ?_))
    have cX:=(cq.le K)
    refine Gd rfl (.jF (v:= .int .i64 (f.h d)) j5 rfl cX (nG f (by omega))) (Ga rfl (.add rfl rfl (by have:=hab (f.p d).toNat;have:=(ku hso (k:=d) (by omega)).2;omega)) ?_)
    refine Ga rfl (.lL ((f.p d).toNat) underlying67 kz rfl rfl (ay.vec.isSome kr (by omega)) (by have:=(ku hso (k:=d) (by omega)).1;omega) (by have:=(ku hso (k:=d) (by omega)).1;omega)) ?_
    refine G.kP rfl rfl rfl rfl (Ef.Jf (j:=(f.p d).toNat) (o:=0) (((rX (l9 own.length ls (old.take k2)) f d).getD ((f.p d).toNat) 0)+(f.h d)) kz rfl (by omega) rfl aI kr (lF (rX (l9 own.length ls (old.take k2)) f d) 0 (by rw[uC,rz];have:=(ku hso (k:=d) (by omega)).1;omega)) (by decide) rfl rfl ?_)
    intro fl fm aJ
    refine noT (by kernel_rfl) ?_
    have fo:ll w fl (LF gp gs gh A c):=fk.ch aJ (fun i hi hlt=>absurd hlt (by have:=(aI.row hi).1;have:=bf.size;omega))
    refine G.nil (E.jZ (E.jG (WC.region (Wa (.add rfl rfl (by omega)) rfl (Wn 1 rfl (W.nil ?_))))))
    have fp:=((bB.le K).ch aJ (aI.rl (by have:=R.lt;have:=l.size;omega)))
    have fq:=((bC.le K).ch aJ (Apart.symm (fun q h1 h2=>by have:=(S.row h1).2;have:=(aI.row h2).1;have:=l.size;omega)))
    have fr:=((bD.le K).ch aJ (aI.rl (by have:=T.lt;have:=l.size;omega)))
    have fs:=((bE.le K).ch aJ (aI.rl (by have:=U.lt;have:=l.size;omega)))
    have ft:=((bF.le K).ch aJ (aI.rl (by have:=Z.lt;have:=l.size;omega)))
    have fu:=(cX.ch aJ (a5.rn (by omega)))
    refine E.again (d+1) (.of rfl) ?_ ?_
    ·exact⟨by omega,fo,by have:=bA;have:=K.size;have:=aJ.size;omega,fp,fq,fr,fs,ft,fm,fu⟩
    first|omega|(simp only[];omega)
   refine Cn rfl (dF c5) (WC.exit (E.jJ (E.jJ (E.ko (E.jZ (E.jG (WC.region (Wa (.add rfl rfl (by omega)) rfl (Wn 1 rfl (W.nil (E.again (k2+1,true) (.of rfl) ?_ ?_)))))))))))
   ·exact⟨by omega,fun i hi=>(Nat.lt_succ_iff_lt_or_eq.1 hi).elim (hth i) (fun hh=>by subst hh;exact⟨_,aA⟩),Nn hhd b7,bz,by have:=b5;have:=ba;have:=aE;have:=bA;have:=b2;have:=D.size;have:=ak.size;have:=l.size;have:=ac.size;have:=O.size;have:=P.size;omega,bB,bC,bD,bE,bF,(bG.cast rfl (by have e3:d=2:=(by omega);rw[e3,zu (by omega)];unfold nJ;rw[aA];rfl))⟩
   first|omega|(simp only[];omega)
  refine Wa (.dec (.move rfl) (Bool.eq_false_iff.2 b7)) rfl (Wn 2 rfl ?_)
  have cY:=((az.le O).cn P (by have:=az.lt;omega))
  have cZ:=((aG.le O).cb P (aG.rn (by omega)))
  have c4:=((aq.le O).cn P (by have:=aq.lt;omega))
  have c8:=((aH.le O).cn P (by have:=aH.lt;omega))
  refine W.mY rfl rfl rfl rfl rfl rfl (Ef.call Yf rfl rfl (JK (old.getD k2 0) b6 (mf.mk cY cZ c4 c8 Y n2 n3 n4 n5 n6) hb (hq _ 0) (hq _ 1)) ?_)
  rintro _ fv ⟨rfl,ar⟩
  refine⟨_,rfl,?_⟩
  refine Wn 3 rfl (Nx (Sr (Wa (.jE tC rfl) rfl ?_)))
  have da:=(bx.le ar)
  refine Wr (.mV [.int .i64 f.p0,.int .i64 (f.p1)] vY rfl (by decide) rfl da rfl) rfl (Wn 1 rfl (Nx (WC.block ?_)))
  refine WC.loop (ι:=Nat) (fun d=>[(0,.pointer (some ⟨gp,0,none⟩)),(1,.slice Ao no co),(2,.slice As ns cS),(3,.slice Af nf cf),(9,.map (some N)),(16,.slice (some ⟨ab,0,none⟩) nf nf),(17,.bool (!(decide (kE lh (old.getD k2 0) 0+kE lh (old.getD k2 0) 1=0)))),(20,.pointer (some ⟨bg,0,none⟩)),(98,.slice Ao no co),(99,.int .i64 ((no:Nat):Int)),(100,.int .i64 ((k2:Nat):Int)),(123,.agg #[.int .i64 f.p0,.int .i64 (f.p1)]),(124,.int .i64 ((d:Nat):Int))]) (fun d F=>(d<=2)/\ll w F (LF gp gs gh A c)/\fv.heap.size<=F.heap.size/\jL F gp 132 #[.slice A own.length c,.map (some gs),.map (some gh),.int .i64 (lost)]/\jO F 0 3 iv 1 A own.length c own/\kH F sw mK gs ls cs/\kH F Bg oK gh lh ck/\kH F sw Value.bool N lg cg/\jO F aa.heap.size 3 iv 1 (some ⟨ab,0,none⟩) nf nf (rX (l9 own.length ls (old.take k2)) f d)/\jL F bg 70 (jT f).toArray) (fun d=>2-d) 0 ?_ ?_ ?_
  ·exact .of rfl
  ·exact⟨Nat.zero_le _,(cW.le ar),Nat.le_refl _,(cY.le ar),(cZ.le ar),(c4.le ar),(c8.le ar),(((bu.le O).cn P (by have:=bu.lt;omega)).le ar),(((a5.le O).cb P (a5.rn (by omega))).le ar),da⟩
  rintro d F ⟨cp,bz,bA,bB,bC,bD,bE,bF,bG,cq⟩
  have fi:aa.heap.size<=F.heap.size:=Nat.le_trans cm (by have:=O.size;have:=P.size;have:=ar.size;omega)
  have hpz:=hso.1
  have hab:=AY hso.2.2.2.1 hso.2.2.2.2 hgb d cp
  refine Sr (Wn 1 rfl (Nx (Sq ?_)))
  by_cases c5:((d:Nat):Int)<2
  ·refine Cy rfl (dT c5) (Sn (Sq (WC.block (Sr (Wn 1 rfl (Wa (.sU (v:= .int .i64 (f.p d)) d underlying52 kz j5 rfl rfl rfl (by omega) (wo f (by omega))) rfl (Wn 2 rfl (Nx (WC.draw [0,1,2,3,4,5,6,7,8,9,10] mixed (by kernel_rfl) fun fj K=>?_)))))))))
   have fw:=bz.le K
   refine Gn 2 rfl (Ga rfl (.lL ((f.p d).toNat) underlying67 kz rfl rfl (ay.vec.isSome kr (by omega)) (by have:=(ku hso (k:=d) (by omega)).1;omega) (by have:=(ku hso (k:=d) (by omega)).1;omega)) ?_)
   have aK:=(bG.le K)
   refine Gd rfl (.pg (v:= .int .i64 ((rX (l9 own.length ls (old.take k2)) f d).getD ((f.p d).toNat) 0)) j5 rfl aK.vec kr (lF (rX (l9 own.length ls (old.take k2)) f d) 0 (by rw[uC,rz];have:=(ku hso (k:=d) (by omega)).1;omega)) rfl) ?_
   refine Gn 1 rfl (Ga rfl (.jE lZ rfl) (Ga rfl (.j3 d underlying52 kz rfl rfl rfl (by omega)) ?_))
   have db:=(cq.le K)
   refine Gd rfl (.jF (v:= .int .i64 (f.h d)) j5 rfl db (nG f (by omega))) (Ga rfl (.add rfl rfl (by have:=hab (f.p d).toNat;have:=(ku hso (k:=d) (by omega)).2;omega)) ?_)
   refine Ga rfl (.lL ((f.p d).toNat) underlying67 kz rfl rfl (ay.vec.isSome kr (by omega)) (by have:=(ku hso (k:=d) (by omega)).1;omega) (by have:=(ku hso (k:=d) (by omega)).1;omega)) ?_
   refine G.kP rfl rfl rfl rfl (Ef.Jf (j:=(f.p d).toNat) (o:=0) (((rX (l9 own.length ls (old.take k2)) f d).getD ((f.p d).toNat) 0)+(f.h d)) kz rfl (by omega) rfl aK kr (lF (rX (l9 own.length ls (old.take k2)) f d) 0 (by rw[uC,rz];have:=(ku hso (k:=d) (by omega)).1;omega)) (by decide) rfl rfl ?_)
   intro fx fy aL
   refine noT (by kernel_rfl) ?_
   have fz:ll w fx (LF gp gs gh A c):=fw.ch aL (fun i hi hlt=>absurd hlt (by have:=(aK.row hi).1;have:=bf.size;omega))
   refine G.nil (E.jZ (E.jG (WC.region (Wa (.add rfl rfl (by omega)) rfl (Wn 1 rfl (W.nil ?_))))))
   have fA:=((bB.le K).ch aL (aK.rl (by have:=R.lt;have:=l.size;omega)))
   have fB:=((bC.le K).ch aL (Apart.symm (fun q h1 h2=>by have:=(S.row h1).2;have:=(aK.row h2).1;have:=l.size;omega)))
   have fC:=((bD.le K).ch aL (aK.rl (by have:=T.lt;have:=l.size;omega)))
   have fD:=((bE.le K).ch aL (aK.rl (by have:=U.lt;have:=l.size;omega)))
   have fE:=((bF.le K).ch aL (aK.rl (by have:=Z.lt;have:=l.size;omega)))
   have fF:=(db.ch aL (a5.rn (by omega)))
   refine E.again (d+1) (.of rfl) ?_ ?_
   ·exact⟨by omega,fz,by have:=bA;have:=K.size;have:=aL.size;omega,fA,fB,fC,fD,fE,fy,fF⟩
   first|omega|(simp only[];omega)
  refine Cn rfl (dF c5) (WC.exit (E.jJ (E.jJ (E.ko (E.jZ (E.jG (WC.region (Wa (.add rfl rfl (by omega)) rfl (Wn 1 rfl (W.nil (E.again (k2+1,(!(decide (kE lh (old.getD k2 0) 0+kE lh (old.getD k2 0) 1=0)))) (.of rfl) ?_ ?_)))))))))))
  ·exact⟨by omega,fun i hi=>(Nat.lt_succ_iff_lt_or_eq.1 hi).elim (hth i) (fun hh=>by subst hh;exact⟨_,aA⟩),Np hhd b7,bz,by have:=b5;have:=ba;have:=aE;have:=bA;have:=b2;have:=D.size;have:=ak.size;have:=l.size;have:=ac.size;have:=O.size;have:=P.size;have:=ar.size;omega,bB,bC,bD,bE,bF,(bG.cast rfl (by have e3:d=2:=(by omega);rw[e3,zu (by omega)];unfold nJ;rw[aA];rfl))⟩
  first|omega|(simp only[];omega)
 refine Cn rfl (dF c3) ?_
 have b8:=Nl hth (by omega)
 have dc:=hgb
 rw[List.take_of_length_le (by omega)]at dc
 refine WC.exit (E.jJ (E.jJ (E.ko (E.jG (Sq (Sr (Wn 1 rfl (Nx ?_))))))))
 by_cases c6:held=true
 ·refine Cy rfl c6 (Sr (Wn 1 rfl (Nx (Rt (E.jH (E.jI rfl rfl ?_))))))
  have e9:rP own.length ls lh old seats fee=14:=SS hok b8 (by omega) hhd c6;exact⟨a4,by rw[e9],.inl ⟨by rw[e9];decide,⟨az,aG,aq,aH,Y,n2,n3,n4,n5,n6⟩⟩⟩
 refine Cn rfl (Bool.eq_false_iff.2 c6) ?_
 have cr:=PO (by omega) hhd c6
 refine Sn (Sq (Sr (Wn 1 rfl (Wr (.len underlying94 rfl) rfl (Wn 1 rfl (Nx (WC.block ?_)))))))
 refine WC.loop (ι:=Nat) (fun b=>[(0,.pointer (some ⟨gp,0,none⟩)),(1,.slice Ao no co),(2,.slice As ns cS),(3,.slice Af nf cf),(9,.map (some N)),(16,.slice (some ⟨ab,0,none⟩) nf nf),(141,.slice As ns cS),(142,.int .i64 ((ns:Nat):Int)),(143,.int .i64 ((b:Nat):Int))]) (fun b ae=>(b<=ns)/\(∀i,i<b->¬There ls old (seats.getD i jM))/\ll w ae (LF gp gs gh A c)/\ad.heap.size<=ae.heap.size/\jL ae gp 132 #[.slice A own.length c,.map (some gs),.map (some gh),.int .i64 (lost)]/\jO ae 0 3 iv 1 A own.length c own/\kH ae sw mK gs ls cs/\kH ae Bg oK gh lh ck/\kH ae sw Value.bool N lg cg/\jO ae aa.heap.size 3 iv 1 (some ⟨ab,0,none⟩) nf nf (nQ (l9 own.length ls old) (seats.take b))) (fun b=>ns-b) 0 ?_ ?_ ?_
 ·exact .of rfl
 ·exact⟨Nat.zero_le _,fun i hi=>by omega,a4,Nat.le_refl _,az,aG,aq,aH,bu,(a5.cast rfl (by rw[List.take_of_length_le (by omega)];rfl))⟩
 rintro b ae ⟨g6,hnt,bH,dd,b9,af,bi,ah,aB,aC⟩
 have de:aa.heap.size<=ae.heap.size:=Nat.le_trans cm (by omega)
 have hcb:=Mc hok.2.1.2 dc b (by omega)
 refine Sr (Wn 1 rfl (Nx (Sq ?_)))
 by_cases c7:((b:Nat):Int)<((ns:Nat):Int)
 ·refine Cy rfl (dT c7) (Sn (Sq (WC.block (Sr (Wa (.lL b underlying94 rQ rfl rfl (hs.isSome jQ (by omega)) rfl (by omega)) rfl (Wr (.tH wW rfl (hs.kX bH hsa) jQ (lF seats jM (by omega))) rfl (W.ef rfl rfl rfl (Ef.jR z70 ?_))))))))
  intro bj fG fH ct n
  have fI:=bH.le n
  have ct:jL fG bj 70 (jT jM).toArray:=ct
  refine W.kP rfl rfl (Ef.storeAll rQ (by rfl) rfl rfl ct (by simp only[List.size_toArray,jQ.len]) (jQ.one (seats.getD b jM)) ?_)
  intro dg cu s
  have cu:jL dg bj 70 (jT (seats.getD b jM)).toArray:=cu
  have fJ:ll w dg (LF gp gs gh A c):=fI.ch s (fun i hi hlt=>by cases hi;exact absurd hlt (by have:=bH.size;have:=fH;omega))
  refine Nx (Sq (Sq (WC.draw [0,1,2,3,4,5,6,7,8,9,10,11,12] mixed (by kernel_rfl) fun g7 m=>?_)))
  have ca:=fJ.le m
  refine Gn 1 rfl (Ga rfl (.nilCheck rfl) (Ga rfl (.jE mM rfl) ?_))
  have a6:=(((b9.le n).cn s (by have:=b9.lt;omega)).le m)
  refine Gd rfl (.jF (v:= .map (some gs)) rR rfl a6 rfl) (Ga rfl (.jE uE rfl) ?_)
  have bI:=(cu.le m)
  refine Gd rfl (.jF (v:= .int .i64 ((seats.getD b jM).ch)) j5 rfl bI rfl) ?_
  rcases optG (jW ((seats.getD b jM).ch) ls)with bJ|⟨cv,bJ⟩
  ·have cw:=(((bi.le n).cn s (by have:=bi.lt;omega)).le m)
   refine Gd rfl (.as (.mi (key:=((seats.getD b jM).ch)) underlying129 oU z70 rfl rfl cw) (by rw[bJ]<;>rfl)) ?_
   refine Gn 1 rfl (Ga rfl (.extract (v:= .agg (jT jM).toArray) rfl rfl) (Gn 1 rfl (G.ef rfl rfl rfl rfl rfl (Ef.jR z70 fun fK fL fM (fN:jL fL fK 70 (jT jM).toArray) ai=>⟨fun _=>ai,?_⟩))))
   have fO:=ca.le ai
   refine G.kP rfl rfl rfl rfl (Ef.storeAll rQ (by rfl) rfl rfl fN (by simp only[List.size_toArray,jQ.len]) (jQ.one jM) ?_)
   intro dh g8 au
   refine noT (by kernel_rfl) ?_
   have fP:ll w dh (LF gp gs gh A c):=fO.ch au (fun i hi hlt=>by cases hi;exact absurd hlt (by have:=ca.size;have:=fM;omega))
   refine Gn 1 rfl (G.nil (E.jG (Sr (Wn 8 rfl (Nx (WC.kF rfl (Sn (Sr (Wa (.jE tC rfl) rfl ?_)))))))))
   have di:=((bI.le ai).cn au (by have:=bI.lt;omega))
   refine Wr (.mV [.int .i64 ((seats.getD b jM).p0),.int .i64 ((seats.getD b jM).p1)] vY rfl (by decide) rfl di rfl) rfl (Wn 1 rfl (Nx (WC.block ?_)))
   have fQ:=((((ah.le n).cn s (by have:=ah.lt;omega)).le (m.trans ai)).cn au (by have:=ah.lt;have:=n.size;have:=s.size;have:=m.size;omega))
   have fR:=((((aB.le n).cn s (by have:=aB.lt;omega)).le (m.trans ai)).cn au (by have:=aB.lt;have:=n.size;have:=s.size;have:=m.size;omega))
   refine WC.loop (ι:=Nat) (fun e=>[(0,.pointer (some ⟨gp,0,none⟩)),(1,.slice Ao no co),(2,.slice As ns cS),(3,.slice Af nf cf),(9,.map (some N)),(16,.slice (some ⟨ab,0,none⟩) nf nf),(25,.pointer (some ⟨bj,0,none⟩)),(141,.slice As ns cS),(142,.int .i64 ((ns:Nat):Int)),(143,.int .i64 ((b:Nat):Int)),(166,.agg #[.int .i64 ((seats.getD b jM).p0),.int .i64 ((seats.getD b jM).p1)]),(167,.int .i64 ((e:Nat):Int))]) (fun e H=>(e<=2)/\ll w H (LF gp gs gh A c)/\dh.heap.size<=H.heap.size/\jL H gp 132 #[.slice A own.length c,.map (some gs),.map (some gh),.int .i64 (lost)]/\jO H 0 3 iv 1 A own.length c own/\kH H sw mK gs ls cs/\kH H Bg oK gh lh ck/\kH H sw Value.bool N lg cg/\jO H aa.heap.size 3 iv 1 (some ⟨ab,0,none⟩) nf nf (sS (nQ (l9 own.length ls old) (seats.take b)) (seats.getD b jM) e)/\jL H bj 70 (jT (seats.getD b jM)).toArray) (fun e=>2-e) 0 ?_ ?_ ?_
   ·exact .of rfl
   ·exact⟨Nat.zero_le _,fP,Nat.le_refl _,((a6.le ai).cn au (by have:=a6.lt;omega)),((((af.le n).cb s (af.rn (by omega))).le (m.trans ai)).cb au (af.rn (by have:=n.size;have:=s.size;have:=m.size;omega))),((cw.le ai).cn au (by have:=cw.lt;omega)),fQ,fR,((((aC.le n).cb s (aC.rn (by omega))).le (m.trans ai)).cb au (aC.rn (by have:=n.size;have:=s.size;have:=m.size;omega))),di⟩
   rintro e H ⟨cx,bK,bL,bM,bN,bO,bP,bQ,bR,cy⟩
   have fS:aa.heap.size<=H.heap.size:=Nat.le_trans de (by have:=n.size;have:=s.size;have:=m.size;have:=ai.size;have:=au.size;omega)
   have J:=PQ (hok.2.1.2 _ (sK (z:=jM) (show b<seats.length by omega)))
   have hpz:=J.1
   have hab:=AZ J.2.2.2.1 J.2.2.2.2 hcb e cx
   refine Sr (Wn 1 rfl (Nx (Sq ?_)))
   by_cases c9:((e:Nat):Int)<2
   ·refine Cy rfl (dT c9) (Sn (Sq (WC.block (Sr (Wn 1 rfl (Wa (.sU (v:= .int .i64 ((seats.getD b jM).p e)) e underlying52 kz j5 rfl rfl rfl (by omega) (wo (seats.getD b jM) (by omega))) rfl (Wn 2 rfl (Nx (WC.draw [0,1,2,3,4,5,6,7,8,9,10] mixed (by kernel_rfl) fun fT L=>?_)))))))))
    have fU:=bK.le L
    refine Gn 2 rfl (Ga rfl (.lL (((seats.getD b jM).p e).toNat) underlying67 kz rfl rfl (ay.vec.isSome kr (by omega)) (by have:=(ku J (k:=e) (by omega)).1;omega) (by have:=(ku J (k:=e) (by omega)).1;omega)) ?_)
    have aM:=(bR.le L)
    refine Gd rfl (.pg (v:= .int .i64 ((sS (nQ (l9 own.length ls old) (seats.take b)) (seats.getD b jM) e).getD (((seats.getD b jM).p e).toNat) 0)) j5 rfl aM.vec kr (lF (sS (nQ (l9 own.length ls old) (seats.take b)) (seats.getD b jM) e) 0 (by rw[uD,yD,rz];have:=(ku J (k:=e) (by omega)).1;omega)) rfl) ?_
    refine Gn 1 rfl (Ga rfl (.jE lZ rfl) (Ga rfl (.j3 e underlying52 kz rfl rfl rfl (by omega)) ?_))
    have dj:=(cy.le L)
    refine Gd rfl (.jF (v:= .int .i64 ((seats.getD b jM).h e)) j5 rfl dj (nG (seats.getD b jM) (by omega))) (Ga rfl (.sub rfl rfl (by have:=hab ((seats.getD b jM).p e).toNat;have:=(ku J (k:=e) (by omega)).2;omega)) ?_)
    refine Ga rfl (.lL (((seats.getD b jM).p e).toNat) underlying67 kz rfl rfl (ay.vec.isSome kr (by omega)) (by have:=(ku J (k:=e) (by omega)).1;omega) (by have:=(ku J (k:=e) (by omega)).1;omega)) ?_
    refine G.kP rfl rfl rfl rfl (Ef.Jf (j:=((seats.getD b jM).p e).toNat) (o:=0) (((sS (nQ (l9 own.length ls old) (seats.take b)) (seats.getD b jM) e).getD (((seats.getD b jM).p e).toNat) 0)-((seats.getD b jM).h e)) kz rfl (by omega) rfl aM kr (lF (sS (nQ (l9 own.length ls old) (seats.take b)) (seats.getD b jM) e) 0 (by rw[uD,yD,rz];have:=(ku J (k:=e) (by omega)).1;omega)) (by decide) rfl rfl ?_)
    intro fV fW aN
    refine noT (by kernel_rfl) ?_
    have fX:ll w fV (LF gp gs gh A c):=fU.ch aN (fun i hi hlt=>absurd hlt (by have:=(aM.row hi).1;have:=bf.size;omega))
    refine G.nil (E.jZ (E.jG (WC.region (Wa (.add rfl rfl (by omega)) rfl (Wn 1 rfl (W.nil ?_))))))
    have fY:=((bM.le L).ch aN (aM.rl (by have:=R.lt;have:=l.size;omega)))
    have fZ:=((bN.le L).ch aN (Apart.symm (fun q h1 h2=>by have:=(S.row h1).2;have:=(aM.row h2).1;have:=l.size;omega)))
    have f0:=((bO.le L).ch aN (aM.rl (by have:=T.lt;have:=l.size;omega)))
    have f1:=((bP.le L).ch aN (aM.rl (by have:=U.lt;have:=l.size;omega)))
    have f2:=((bQ.le L).ch aN (aM.rl (by have:=Z.lt;have:=l.size;omega)))
    have f3:=(dj.ch aN (aC.rn (by omega)))
    refine E.again (e+1) (.of rfl) ?_ ?_
    ·exact⟨by omega,fX,by have:=bL;have:=L.size;have:=aN.size;omega,fY,fZ,f0,f1,f2,fW,f3⟩
    first|omega|(simp only[];omega)
   refine Cn rfl (dF c9) (WC.exit (E.jJ (E.jJ (E.ko (E.jZ (E.jG (WC.region (Wa (.add rfl rfl (by omega)) rfl (Wn 1 rfl (W.nil (E.again (b+1) (.of rfl) ?_ ?_)))))))))))
   ·exact⟨by omega,fun i hi=>(Nat.lt_succ_iff_lt_or_eq.1 hi).elim (hnt i) (fun hh=>by subst hh;exact fun h=>h.1 bJ),bK,by have:=dd;have:=ba;have:=aE;have:=b5;have:=bL;have:=b2;have:=D.size;have:=ak.size;have:=l.size;have:=ac.size;have:=n.size;have:=s.size;have:=m.size;have:=ai.size;have:=au.size;omega,bM,bN,bO,bP,bQ,(bR.cast rfl (by have e5:e=2:=(by omega);rw[e5,zw (by omega)]))⟩
   first|omega|(simp only[];omega)
  have bS:=(((bi.le n).cn s (by have:=bi.lt;omega)).le m)
  refine Gd rfl (.as (.mi (key:=((seats.getD b jM).ch)) underlying129 oU z70 rfl rfl bS) (by rw[bJ]<;>rfl)) ?_
  refine Gn 1 rfl (Ga rfl (.extract (v:= .agg (jT cv).toArray) rfl rfl) (Gn 1 rfl (G.ef rfl rfl rfl rfl rfl (Ef.jR z70 fun dk f4 f5 (f6:jL f4 dk 70 (jT jM).toArray) Q=>⟨fun _=>Q,?_⟩))))
  have f7:=ca.le Q
  refine G.kP rfl rfl rfl rfl (Ef.storeAll rQ (by rfl) rfl rfl f6 (by simp only[List.size_toArray,jQ.len]) (jQ.one cv) ?_)
  intro cz dl V
  refine noT (by kernel_rfl) ?_
  have dl:jL cz dk 70 (jT cv).toArray:=dl
  have dm:ll w cz (LF gp gs gh A c):=f7.ch V (fun i hi hlt=>by cases hi;exact absurd hlt (by have:=ca.size;have:=f5;omega))
  refine Gn 1 rfl (G.nil (E.jG (Sr (Wn 3 rfl (Wg (Any.rd (.jE uE rfl) _) rfl ?_)))))
  have cA:=((bI.le Q).cn V (by have:=bI.lt;omega))
  refine Wg (.jF (v:= .int .i64 ((seats.getD b jM).ch)) j5 rfl cA rfl) rfl ?_
  rcases optG (jW ((seats.getD b jM).ch) lg)with bk|⟨g9,bk⟩
  ·have f8:=((((aB.le n).cn s (by have:=aB.lt;omega)).le (m.trans Q)).cn V (by have:=aB.lt;have:=n.size;have:=s.size;have:=m.size;omega))
   refine Wg (.as (.tQ (key:=((seats.getD b jM).ch)) underlying144 oU z4 rfl rfl f8) (by rw[bk]<;>rfl)) rfl ?_
   refine Wn 2 rfl (Nx (WC.jS rfl (Sr (Wn 1 rfl (Nx (Rt (E.jH (E.j4 (E.jH (E.jH (E.j4 (E.jH ?_))))))))))))
   have ga:=((a6.le Q).cn V (by have:=a6.lt;omega))
   have gb:=((((af.le n).cb s (af.rn (by omega))).le (m.trans Q)).cb V (af.rn (by have:=n.size;have:=s.size;have:=m.size;omega)))
   have gc:=((bS.le Q).cn V (by have:=bS.lt;omega))
   have gd:=((((ah.le n).cn s (by have:=ah.lt;omega)).le (m.trans Q)).cn V (by have:=ah.lt;have:=n.size;have:=s.size;have:=m.size;omega))
   refine E.jI rfl rfl ?_
   have e9:rP own.length ls lh old seats fee=4:=Vu hok b8 cr (by omega) ⟨by rw[bJ];simp,hmo.not bk⟩;exact⟨dm,by rw[e9],.inl ⟨by rw[e9];decide,⟨ga,gb,gc,gd,Y,n2,n3,n4,n5,n6⟩⟩⟩
  have dn:=((((aB.le n).cn s (by have:=aB.lt;omega)).le (m.trans Q)).cn V (by have:=aB.lt;have:=n.size;have:=s.size;have:=m.size;omega))
  refine Wg (.as (.tQ (key:=((seats.getD b jM).ch)) underlying144 oU z4 rfl rfl dn) (by rw[bk]<;>rfl)) rfl ?_
  refine Wn 2 rfl (Nx (Cn rfl (congrArg not ((hmo.val bk).1)) (Sn (Sr (Wa (.jE tC rfl) rfl (Wr (.mV [.int .i64 ((seats.getD b jM).p0),.int .i64 ((seats.getD b jM).p1)] vY rfl (by decide) rfl cA rfl) rfl (Wn 1 rfl (Nx (WC.block ?_)))))))))
  have gf:=((((ah.le n).cn s (by have:=ah.lt;omega)).le (m.trans Q)).cn V (by have:=ah.lt;have:=n.size;have:=s.size;have:=m.size;omega))
  refine WC.loop (ι:=Nat) (fun e=>[(0,.pointer (some ⟨gp,0,none⟩)),(1,.slice Ao no co),(2,.slice As ns cS),(3,.slice Af nf cf),(9,.map (some N)),(16,.slice (some ⟨ab,0,none⟩) nf nf),(25,.pointer (some ⟨bj,0,none⟩)),(141,.slice As ns cS),(142,.int .i64 ((ns:Nat):Int)),(143,.int .i64 ((b:Nat):Int)),(166,.agg #[.int .i64 ((seats.getD b jM).p0),.int .i64 ((seats.getD b jM).p1)]),(167,.int .i64 ((e:Nat):Int))]) (fun e H=>(e<=2)/\ll w H (LF gp gs gh A c)/\cz.heap.size<=H.heap.size/\jL H gp 132 #[.slice A own.length c,.map (some gs),.map (some gh),.int .i64 (lost)]/\jO H 0 3 iv 1 A own.length c own/\kH H sw mK gs ls cs/\kH H Bg oK gh lh ck/\kH H sw Value.bool N lg cg/\jO H aa.heap.size 3 iv 1 (some ⟨ab,0,none⟩) nf nf (sS (nQ (l9 own.length ls old) (seats.take b)) (seats.getD b jM) e)/\jL H bj 70 (jT (seats.getD b jM)).toArray) (fun e=>2-e) 0 ?_ ?_ ?_
  ·exact .of rfl
  ·exact⟨Nat.zero_le _,dm,Nat.le_refl _,((a6.le Q).cn V (by have:=a6.lt;omega)),((((af.le n).cb s (af.rn (by omega))).le (m.trans Q)).cb V (af.rn (by have:=n.size;have:=s.size;have:=m.size;omega))),((bS.le Q).cn V (by have:=bS.lt;omega)),gf,dn,((((aC.le n).cb s (aC.rn (by omega))).le (m.trans Q)).cb V (aC.rn (by have:=n.size;have:=s.size;have:=m.size;omega))),cA⟩
  rintro e H ⟨cx,bK,bL,bM,bN,bO,bP,bQ,bR,cy⟩
  have fS:aa.heap.size<=H.heap.size:=Nat.le_trans de (by have:=n.size;have:=s.size;have:=m.size;have:=Q.size;have:=V.size;omega)
  have J:=PQ (hok.2.1.2 _ (sK (z:=jM) (show b<seats.length by omega)))
  have hpz:=J.1
  have hab:=AZ J.2.2.2.1 J.2.2.2.2 hcb e cx
  refine Sr (Wn 1 rfl (Nx (Sq ?_)))
  by_cases c9:((e:Nat):Int)<2
  ·refine Cy rfl (dT c9) (Sn (Sq (WC.block (Sr (Wn 1 rfl (Wa (.sU (v:= .int .i64 ((seats.getD b jM).p e)) e underlying52 kz j5 rfl rfl rfl (by omega) (wo (seats.getD b jM) (by omega))) rfl (Wn 2 rfl (Nx (WC.draw [0,1,2,3,4,5,6,7,8,9,10] mixed (by kernel_rfl) fun fT L=>?_)))))))))
   have gg:=bK.le L
   refine Gn 2 rfl (Ga rfl (.lL (((seats.getD b jM).p e).toNat) underlying67 kz rfl rfl (ay.vec.isSome kr (by omega)) (by have:=(ku J (k:=e) (by omega)).1;omega) (by have:=(ku J (k:=e) (by omega)).1;omega)) ?_)
   have aO:=(bR.le L)
   refine Gd rfl (.pg (v:= .int .i64 ((sS (nQ (l9 own.length ls old) (seats.take b)) (seats.getD b jM) e).getD (((seats.getD b jM).p e).toNat) 0)) j5 rfl aO.vec kr (lF (sS (nQ (l9 own.length ls old) (seats.take b)) (seats.getD b jM) e) 0 (by rw[uD,yD,rz];have:=(ku J (k:=e) (by omega)).1;omega)) rfl) ?_
   refine Gn 1 rfl (Ga rfl (.jE lZ rfl) (Ga rfl (.j3 e underlying52 kz rfl rfl rfl (by omega)) ?_))
   have dp:=(cy.le L)
   refine Gd rfl (.jF (v:= .int .i64 ((seats.getD b jM).h e)) j5 rfl dp (nG (seats.getD b jM) (by omega))) (Ga rfl (.sub rfl rfl (by have:=hab ((seats.getD b jM).p e).toNat;have:=(ku J (k:=e) (by omega)).2;omega)) ?_)
   refine Ga rfl (.lL (((seats.getD b jM).p e).toNat) underlying67 kz rfl rfl (ay.vec.isSome kr (by omega)) (by have:=(ku J (k:=e) (by omega)).1;omega) (by have:=(ku J (k:=e) (by omega)).1;omega)) ?_
   refine G.kP rfl rfl rfl rfl (Ef.Jf (j:=((seats.getD b jM).p e).toNat) (o:=0) (((sS (nQ (l9 own.length ls old) (seats.take b)) (seats.getD b jM) e).getD (((seats.getD b jM).p e).toNat) 0)-((seats.getD b jM).h e)) kz rfl (by omega) rfl aO kr (lF (sS (nQ (l9 own.length ls old) (seats.take b)) (seats.getD b jM) e) 0 (by rw[uD,yD,rz];have:=(ku J (k:=e) (by omega)).1;omega)) (by decide) rfl rfl ?_)
   intro gi gj aP
   refine noT (by kernel_rfl) ?_
   have gk:ll w gi (LF gp gs gh A c):=gg.ch aP (fun i hi hlt=>absurd hlt (by have:=(aO.row hi).1;have:=bf.size;omega))
   refine G.nil (E.jZ (E.jG (WC.region (Wa (.add rfl rfl (by omega)) rfl (Wn 1 rfl (W.nil ?_))))))
   have gl:=((bM.le L).ch aP (aO.rl (by have:=R.lt;have:=l.size;omega)))
   have gm:=((bN.le L).ch aP (Apart.symm (fun q h1 h2=>by have:=(S.row h1).2;have:=(aO.row h2).1;have:=l.size;omega)))
   have gn:=((bO.le L).ch aP (aO.rl (by have:=T.lt;have:=l.size;omega)))
   have gq:=((bP.le L).ch aP (aO.rl (by have:=U.lt;have:=l.size;omega)))
   have gr:=((bQ.le L).ch aP (aO.rl (by have:=Z.lt;have:=l.size;omega)))
   have gu:=(dp.ch aP (aC.rn (by omega)))
   refine E.again (e+1) (.of rfl) ?_ ?_
   ·exact⟨by omega,gk,by have:=bL;have:=L.size;have:=aP.size;omega,gl,gm,gn,gq,gr,gj,gu⟩
   first|omega|(simp only[];omega)
  refine Cn rfl (dF c9) (WC.exit (E.jJ (E.jJ (E.ko (E.jZ (E.jG (WC.region (Wa (.add rfl rfl (by omega)) rfl (Wn 1 rfl (W.nil (E.again (b+1) (.of rfl) ?_ ?_)))))))))))
  ·exact⟨by omega,fun i hi=>(Nat.lt_succ_iff_lt_or_eq.1 hi).elim (hnt i) (fun hh=>by subst hh;exact fun h=>h.2 (hmo.val bk).2),bK,by have:=dd;have:=ba;have:=aE;have:=b5;have:=bL;have:=b2;have:=D.size;have:=ak.size;have:=l.size;have:=ac.size;have:=n.size;have:=s.size;have:=m.size;have:=Q.size;have:=V.size;omega,bM,bN,bO,bP,bQ,(bR.cast rfl (by have e5:e=2:=(by omega);rw[e5,zw (by omega)]))⟩
  first|omega|(simp only[];omega)
 refine Cn rfl (dF c7) ?_
 have dq:=Nq hnt (by omega)
 refine WC.exit (E.jJ (E.jJ (E.ko (E.jG (Sq (Sr (Wn 2 rfl (W.cl aaW rfl rfl (Oc ae aC.vec (hf.kX bH hfa) (by omega)) ?_))))))))
 rintro _ gv ⟨rfl,aD⟩
 have dr:=bH.le aD
 refine Wn 1 rfl (Nx ?_)
 by_cases bl:(nQ (l9 own.length ls old) (seats.take b))=fee
 ·refine Cn rfl (congrArg not (dT bl)) (Sn (Sq (Sr (Wn 1 rfl (Wr (.len underlying67 rfl) rfl (Wn 1 rfl (Nx (WC.block ?_))))))))
  refine WC.loop (ι:=Nat×SM) (fun⟨k6,lm⟩=>[(0,.pointer (some ⟨gp,0,none⟩)),(2,.slice As ns cS),(3,.slice Af nf cf),(187,.slice Ao no co),(188,.int .i64 ((no:Nat):Int)),(189,.int .i64 ((k6:Nat):Int))]) (fun⟨k6,lm⟩ aQ=>(k6<=no)/\(lm=nO ls (old.take k6))/\ll w aQ (LF gp gs gh A c)/\gv.heap.size<=aQ.heap.size/\jL aQ gp 132 #[.slice A own.length c,.map (some gs),.map (some gh),.int .i64 (lost)]/\jO aQ 0 3 iv 1 A own.length c own/\kH aQ sw mK gs lm cs/\kH aQ Bg oK gh lh ck) (fun⟨k6,lm⟩=>no-k6) (0,ls) ?_ ?_ ?_
  ·exact .of rfl
  ·exact⟨Nat.zero_le _,rfl,dr,Nat.le_refl _,(b9.le aD),(af.le aD),(bi.le aD),(ah.le aD)⟩
  rintro⟨k6,lm⟩ aQ ⟨hc,hlm,cB,gw,cC,ds,du,dw⟩
  refine Sr (Wn 1 rfl (Nx (Sq ?_)))
  by_cases dx:((k6:Nat):Int)<((no:Nat):Int)
  ·refine Cy rfl (dT dx) (Sn (Sq (WC.block (Sr (Wa (.lL k6 underlying67 kz rfl rfl (ho.isSome kr (by omega)) rfl (by omega)) rfl (Wr (.pg (v:= .int .i64 (old.getD k6 0)) j5 rfl (ho.kX cB hoa) kr (lF old 0 (by omega)) rfl) rfl (Wn 1 rfl (Nx (WC.region (Wn 1 rfl (Wa (.nilCheck rfl) rfl ?_)))))))))))
   refine Wa (.jE mM rfl) rfl (Wr (.jF (v:= .map (some gs)) rR rfl cC rfl) rfl (Wn 1 rfl (W.kP rfl rfl (Ef.Hm (key:=(old.getD k6 0)) underlying129 oU rfl rfl du fun gx gy bT=>?_))))
   have gz:ll w gx (LF gp gs gh A c):=cB.ch bT (fun i hi _=>by cases hi;exact Or.inr (Or.inl rfl))
   refine W.nil (E.jZ (E.jG (WC.region (Wa (.add rfl rfl (by omega)) rfl (Wn 1 rfl (W.nil ?_))))))
   have gA:=(ds.ch bT (fun q hq=>by cases hq;exact n5))
   refine E.again (k6+1,(pJ (old.getD k6 0) lm)) (.of rfl) ?_ ?_
   ·exact⟨by omega,by rw[Jq (by omega),<-hlm],gz,by have:=gw;have:=bT.size;omega,(cC.ch bT (fun h=>(Ne.symm Y) (oI h))),gA,gy,(dw.ch bT (fun h=>n3 (oI h)))⟩
   first|omega|(simp only[];omega)
  refine Cn rfl (dF dx) (WC.exit (E.jJ (E.jJ (E.ko (E.jG (Sq (Sr (Wn 1 rfl (Wr (.len underlying94 rfl) rfl (Wn 1 rfl (Nx (WC.block ?_))))))))))))
  refine WC.loop (ι:=Nat×SM×Nat) (fun⟨I,ln,cn⟩=>[(0,.pointer (some ⟨gp,0,none⟩)),(3,.slice Af nf cf),(199,.slice As ns cS),(200,.int .i64 ((ns:Nat):Int)),(201,.int .i64 ((I:Nat):Int))]) (fun⟨I,ln,cn⟩ aR=>(I<=ns)/\((ln,cn)=su (lm,cs) (seats.take I))/\ll w aR (LF gp gs gh A c)/\aQ.heap.size<=aR.heap.size/\jL aR gp 132 #[.slice A own.length c,.map (some gs),.map (some gh),.int .i64 (lost)]/\jO aR 0 3 iv 1 A own.length c own/\kH aR sw mK gs ln cn/\kH aR Bg oK gh lh ck) (fun⟨I,ln,cn⟩=>ns-I) (0,lm,cs) ?_ ?_ ?_
  ·exact .of rfl
  ·exact⟨Nat.zero_le _,rfl,cB,Nat.le_refl _,cC,ds,du,dw⟩
  rintro⟨I,ln,cn⟩ aR ⟨hd,hln,cd,dy,cD,bU,bV,bW⟩
  refine Sr (Wn 1 rfl (Nx (Sq ?_)))
  by_cases dz:((I:Nat):Int)<((ns:Nat):Int)
  ·refine Cy rfl (dT dz) (Sn (Sq (WC.block (Sr (Wa (.lL I underlying94 rQ rfl rfl (hs.isSome jQ (by omega)) rfl (by omega)) rfl (Wr (.tH wW rfl (hs.kX cd hsa) jQ (lF seats jM (by omega))) rfl (W.ef rfl rfl rfl (Ef.jR z70 ?_))))))))
   intro dA gB gC cE av
   have gD:=cd.le av
   have cE:jL gB dA 70 (jT jM).toArray:=cE
   refine W.kP rfl rfl (Ef.storeAll rQ (by rfl) rfl rfl cE (by simp only[List.size_toArray,jQ.len]) (jQ.one (seats.getD I jM)) ?_)
   intro dB cF aw
   have cF:jL dB dA 70 (jT (seats.getD I jM)).toArray:=cF
   have gE:ll w dB (LF gp gs gh A c):=gD.ch aw (fun i hi hlt=>by cases hi;exact absurd hlt (by have:=cd.size;have:=gC;omega))
   refine Nx (WC.draw [0,1,2,3,4,5,6,7] mixed (by kernel_rfl) fun he aj=>?_)
   have dC:=gE.le aj
   refine Gn 1 rfl (Ga rfl (.nilCheck rfl) (Ga rfl (.jE mM rfl) ?_))
   have cG:=(((cD.le av).cn aw (by have:=cD.lt;omega)).le aj)
   refine Gd rfl (.jF (v:= .map (some gs)) rR rfl cG rfl) (Ga rfl (.jE uE rfl) ?_)
   have dD:=(cF.le aj)
   refine Gd rfl (.jF (v:= .int .i64 ((seats.getD I jM).ch)) j5 rfl dD rfl) (Gd rfl (.jK wW (by rfl) rfl dD) ?_)
   rcases optG (jW ((seats.getD I jM).ch) ln)with bX|⟨hg,bX⟩
   ·have gF:=(((bV.le av).cn aw (by have:=bV.lt;omega)).le aj)
    refine G.kP rfl rfl rfl rfl (Ef.yB (key:=((seats.getD I jM).ch)) (u:=(seats.getD I jM)) underlying129 oU rfl rfl rfl gF bX fun gG gH bY=>(noT (by kernel_rfl) ?_))
    have gI:ll w gG (LF gp gs gh A c):=dC.ch bY (fun i hi _=>by cases hi;exact Or.inr (Or.inl rfl))
    refine G.nil (E.jZ (E.jG (WC.region (Wa (.add rfl rfl (by omega)) rfl (Wn 1 rfl (W.nil ?_))))))
    have gJ:=((((bU.le av).cb aw (bU.rn (by omega))).le aj).ch bY (fun q hq=>by cases hq;exact n5))
    have gK:=((((bW.le av).cn aw (by have:=bW.lt;omega)).le aj).ch bY (fun h=>n3 (oI h)))
    refine E.again (I+1,(ln++[(cn,(seats.getD I jM).ch,(seats.getD I jM))]),(cn+1)) (.of rfl) ?_ ?_
    ·exact⟨by omega,by rw[CY (by omega),<-hln,F9 bX],gI,by have:=dy;have:=av.size;have:=aw.size;have:=aj.size;have:=bY.size;omega,(cG.ch bY (fun h=>(Ne.symm Y) (oI h))),gJ,gH,gK⟩
    first|omega|(simp only[];omega)
   refine G.kP rfl rfl rfl rfl (Ef.wQ (key:=((seats.getD I jM).ch)) (u:=(seats.getD I jM)) underlying129 oU rfl rfl rfl (((bV.le av).cn aw (by have:=bV.lt;omega)).le aj) x8 bX ?_)
   intro gL gM bZ
   refine noT (by kernel_rfl) ?_
   have gN:ll w gL (LF gp gs gh A c):=dC.ch bZ (fun i hi _=>by cases hi;exact Or.inr (Or.inl rfl))
   refine G.nil (E.jZ (E.jG (WC.region (Wa (.add rfl rfl (by omega)) rfl (Wn 1 rfl (W.nil ?_))))))
   have gO:=((((bU.le av).cb aw (bU.rn (by omega))).le aj).ch bZ (fun q hq=>by cases hq;exact n5))
   have gP:=((((bW.le av).cn aw (by have:=bW.lt;omega)).le aj).ch bZ (fun h=>n3 (oI h)))
   refine E.again (I+1,(oq (seats.getD I jM).ch (seats.getD I jM) ln),cn) (.of rfl) ?_ ?_
   ·exact⟨by omega,by rw[CY (by omega),<-hln,Nh bX],gN,by have:=dy;have:=av.size;have:=aw.size;have:=aj.size;have:=bZ.size;omega,(cG.ch bZ (fun h=>(Ne.symm Y) (oI h))),gO,gM,gP⟩
   first|omega|(simp only[];omega)
  refine Cn rfl (dF dz) (WC.exit (E.jJ (E.jJ (E.ko (E.jG (Sq (Sr (Wn 1 rfl (Wr (.len underlying67 rfl) rfl (Wn 1 rfl (Nx (WC.block ?_))))))))))))
  refine WC.loop (ι:=Nat×Int) (fun⟨X,lo⟩=>[(0,.pointer (some ⟨gp,0,none⟩)),(213,.slice Af nf cf),(214,.int .i64 ((nf:Nat):Int)),(215,.int .i64 ((X:Nat):Int))]) (fun⟨X,lo⟩ a7=>(X<=nf)/\(lo=lost+(fee.take X).sum)/\ll w a7 (LF gp gs gh A c)/\aR.heap.size<=a7.heap.size/\jL a7 gp 132 #[.slice A own.length c,.map (some gs),.map (some gh),.int .i64 (lo)]/\jO a7 0 3 iv 1 A own.length c own/\kH a7 sw mK gs ln cn/\kH a7 Bg oK gh lh ck) (fun⟨X,lo⟩=>nf-X) (0,lost) ?_ ?_ ?_
  ·exact .of rfl
  ·exact⟨Nat.zero_le _,by simp,cd,Nat.le_refl _,cD,bU,bV,bW⟩
  rintro⟨X,lo⟩ a7 ⟨hj,hlo,cH,gQ,cI,dE,dG,dH⟩
  have hcs:=Jt hok.2.2 X (by omega)
  refine Sr (Wn 1 rfl (Nx (Sq ?_)))
  by_cases dI:((X:Nat):Int)<((nf:Nat):Int)
  ·refine Cy rfl (dT dI) (Sn (Sq (WC.block (Sr (Wa (.lL X underlying67 kz rfl rfl (hf.isSome kr (by omega)) rfl (by omega)) rfl (Wr (.pg (v:= .int .i64 (fee.getD X 0)) j5 rfl (hf.kX cH hfa) kr (lF fee 0 (by omega)) rfl) rfl (Wn 1 rfl (Nx (WC.region (Wn 1 rfl (Wa (.nilCheck rfl) rfl ?_)))))))))))
   refine Wa (.jE Be rfl) rfl (Wr (.jF (v:= .int .i64 lo) j5 rfl cI rfl) rfl (Wn 1 rfl (Wa (.add rfl rfl (by have:=SY hok.2.2 (show X<fee.length by omega);omega)) rfl ?_)))
   refine Wa (.nilCheck rfl) rfl (Wa (.jE Be rfl) rfl (W.kP rfl rfl (Ef.store kz rfl rfl cI (by first|decide|(simp;done)) rfl ?_)))
   intro dJ cJ b0
   have cJ:jL dJ gp 132 #[.slice A own.length c,.map (some gs),.map (some gh),.int .i64 (lo+(fee.getD X 0))]:=cJ
   have gR:ll w dJ (LF gp gs gh A c):=cH.ch b0 (fun i hi _=>by cases hi;exact Or.inl rfl)
   refine W.nil (E.jZ (E.jG (WC.region (Wa (.add rfl rfl (by omega)) rfl (Wn 1 rfl (W.nil ?_))))))
   have gS:=(dE.ch b0 (fun q hq=>by cases hq;exact n4))
   refine E.again (X+1,(lo+(fee.getD X 0))) (.of rfl) ?_ ?_
   ·exact⟨by omega,by rw[qG (by omega)];omega,gR,by have:=gQ;have:=b0.size;omega,cJ,gS,(dG.ch b0 (fun h=>Y (oI h))),(dH.ch b0 (fun h=>n2 (oI h)))⟩
   first|omega|(simp only[];omega)
  refine Cn rfl (dF dI) (WC.exit (E.jJ (E.jJ (E.ko (E.jG (Sr (Wn 1 rfl (Nx (Rt (E.jI rfl rfl ?_))))))))))
  have e9:rP own.length ls lh old seats fee=0:=SV hok b8 cr dq (by rw[List.take_of_length_le (by omega)]at bl;exact bl);have e1:y9 ls cs old seats=(ln,cn):=(by rw[hln,hlm,List.take_of_length_le (by omega),List.take_of_length_le (by omega)];rfl);have e2:lost+fee.sum=lo:=(by rw[hlo,List.take_of_length_le (by omega)]);exact⟨cH,by rw[e9],.inr ⟨e9,by rw[e1,e2];exact⟨cI,dE,dG,dH,Y,n2,n3,n4,n5,n6⟩⟩⟩
 refine Cy rfl (congrArg not (dF bl)) (Sr (Wn 1 rfl (Nx (Rt (E.jH ?_)))))
 have gT:=(b9.le aD)
 have gU:=(af.le aD)
 have gV:=(bi.le aD)
 have gW:=(ah.le aD)
 refine E.jI rfl rfl ?_
 have e9:rP own.length ls lh old seats fee=8:=Vv hok b8 cr dq (by rw[List.take_of_length_le (by omega)]at bl;exact bl);exact⟨dr,by rw[e9],.inl ⟨by rw[e9];decide,⟨gT,gU,gV,gW,Y,n2,n3,n4,n5,n6⟩⟩⟩
end Go.Proofs.YtcaehidaejhdfaaGreat

namespace Go.Proofs.YtcaehidaejhdfaaGreat
open Tryz
open Go Go.Sx Go.Num Go.rZ Go.Lsp
set_option maxRecDepth 20000
theorem yc {A:Option Addr}{c q:Nat}(h:lU A=some q)(hc:0<c):rowOf A c=some q:=by
  unfold rowOf
  rw[if_neg (by omega)]
  exact h
def QR (w:World)(F F':Nat->Prop):Prop:=∀k,F' k->F k\/w.heap.size<=k
def lM (w:World)(base gp:Nat)(F:Nat->Prop)(s:qp):Prop:=∃gs gh A c,mf w gp gs gh A c s.cs s.ck s.own s.ls s.lh s.lost/\kW s/\(∀k,F k↔LF gp gs gh A c k)/\∀k,F k->base<=k
section
variable {w w':World}{base gp:Nat}{F:Nat->Prop}{s:qp}
theorem lM.kX {F':Nat->Prop}(h:lM w base gp F s)(hc:ll w w' F')(hne:∀k,F k->¬F' k):lM w' base gp F s:=by
  obtain⟨gs,gh,A,c,d,e,b,f⟩:=h
  exact⟨gs,gh,A,c,d.kX hc (fun k hk=>hne k ((b k).2 hk)),e,b,f⟩
theorem lM.ch {r:Option Nat}(h:lM w base gp F s)(hc:Ch w w' r)(hne:∀k,r=some k->¬F k):lM w' base gp F s:=h.kX (hc.kX (F:=fun k=>r=some k) (fun i hi=>hi)) (fun k hk hr=>hne k hr hk)
theorem lM.le (h:lM w base gp F s)(hl:Le w w'):lM w' base gp F s:=h.kX (hl.kX (fun _=>False)) (fun _ _ hf=>hf)
theorem lM.lt (h:lM w base gp F s){k:Nat}(hk:F k):k<w.heap.size:=by
  obtain⟨gs,gh,A,c,b,e,d,f⟩:=h
  exact b.lt ((d k).1 hk)
theorem lM.good (h:lM w base gp F s):kW s:=by
  obtain⟨gs,gh,A,c,d,b,e,f⟩:=h
  exact b
theorem lM.old (h:lM w base gp F s){k:Nat}(hk:F k):base<=k:=by
  obtain⟨gs,gh,A,c,d,e,f,b⟩:=h
  exact b k hk
theorem lM.size (h:lM w base gp F s):base<=w.heap.size:=by
  obtain⟨gs,gh,A,c,b,f,d,e⟩:=h
  have:=e gp ((d gp).2 (.inl rfl))
  have:=b.hp.lt
  omega
theorem lM.next {gs gh gs':Nat}{A:Option Addr}{c:Nat}{s':qp}(h:mf w' gp gs' gh A c s'.cs s'.ck s'.own s'.ls s'.lh s'.lost)(hg:kW s')(hF:∀k,F k↔LF gp gs gh A c k)(hb:∀k,F k->base<=k)(hbw:base<=w.heap.size)(hs:gs'=gs\/w.heap.size<=gs'):
    ∃F',lM w' base gp F' s'/\QR w F F':=by
  have hgr:∀k,LF gp gs' gh A c k->F k\/w.heap.size<=k:=by
    rintro k (hk|hk|hk|hk)
    · exact .inl ((hF k).2 (.inl hk))
    · rcases hs with hs|hs
      · exact .inl ((hF k).2 (.inr (.inl (hk.trans hs))))
      · exact .inr (by omega)
    · exact .inl ((hF k).2 (.inr (.inr (.inl hk))))
    · exact .inl ((hF k).2 (.inr (.inr (.inr hk))))
  refine⟨LF gp gs' gh A c,⟨gs',gh,A,c,h,hg,fun _=>Iff.rfl,fun k hk=>?_⟩,hgr⟩
  rcases hgr k hk with b|b
  · exact hb k b
  · omega
theorem QS (h:kW s):Gs s.ls:=fun x hx=>by
  obtain⟨_,_,_,_,_,b,c⟩:=h.seats x hx
  omega
theorem QT (h:kW s):∀x∈s.ls,∀i,0<=x.2.2.h i/\x.2.2.h i<=1125899906842624:=fun x hx i=>(Jl (h.seats x hx).2.2 i).1
theorem QU (h:kW s):∀x∈s.ls,0<=x.2.2.h0/\0<=x.2.2.h1:=fun x hx=>by
  obtain⟨_,_,_,_,_,b,c⟩:=h.seats x hx
  omega
theorem U3 (h:kW s):∀x∈s.lh,(0<=x.2.1.side/\x.2.1.side<=1)/\(0<=x.2.2.am/\x.2.2.am<=1125899906842624)/\∃t,jW x.2.1.ch s.ls=some t:=fun x hx=>by
  obtain⟨b,d,c⟩:=h.holds x hx
  exact⟨b,by omega,c⟩
theorem QV (h:kW s):∀x∈s.ls,nN s.own.length x.2.2:=fun x hx=>(h.seats x hx).2.2
theorem U4 (h:kW s):∀ch side,kE s.lh ch side<=1125899906842624:=fun ch side=>(h.F4 ch side).2
def Bl (w:World)(base gp:Nat)(F:Nat->Prop)(r:qp×Int):Ending->World->Prop:=fun e w'=>∃F',e= .returned (.int .i64 r.2)/\lM w' base gp F' r.1/\QR w F F'/\ll w w' F
theorem oD {gs gh gs':Nat}{A:Option Addr}{c:Nat}{r:qp×Int}{e:Ending}(hr:e= .returned (.int .i64 r.2))(h:mf w' gp gs' gh A c r.1.cs r.1.ck r.1.own r.1.ls r.1.lh r.1.lost)(hg:kW r.1)(hF:∀k,F k↔LF gp gs gh A c k)(hb:∀k,F k->base<=k)(hbw:base<=w.heap.size)(hs:gs'=gs\/w.heap.size<=gs')(hc:ll w w' (LF gp gs gh A c)):Bl w base gp F r e w':=by
  obtain⟨F',b,d⟩:=lM.next h hg hF hb hbw hs
  exact⟨F',hr,b,d,hc.mono (fun k hk _=>(hF k).2 hk)⟩
theorem yg (t:Seat)(fee:Int)(h:lM w base gp F s):Calls prog 9 #[.pointer (some ⟨gp,0,none⟩),.agg (jT t).toArray,.int .i64 fee] w (Bl w base gp F (rq s t fee)):=by
  have hbw:=h.size
  have hgd:=h.good
  have hg:=(Nf hgd t fee).1
  obtain⟨gs,gh,A,c,k,l,f,i⟩:=h
  refine Calls.mono (QK t fee w k hgd.ownB hgd.LY) ?_
  rintro r w' ⟨hc,hr⟩
  rcases hr with⟨b,rfl,hL⟩|⟨b,⟨u,d⟩,rfl,hL⟩|⟨b,d,j,rfl,hL⟩|⟨b,d,j,rfl,hL⟩
  · have e:rq s t fee=(s,1):=by unfold rq;rw[if_pos b]
    rw[e]at hg ⊢
    exact oD rfl hL hg f i hbw (.inl rfl) hc
  · have e:rq s t fee=(s,4):=by unfold rq;rw[if_neg (not_not_intro b),if_pos (by rw[d];rfl)]
    rw[e]at hg ⊢
    exact oD rfl hL hg f i hbw (.inl rfl) hc
  · have e:rq s t fee=(s,8):=by unfold rq;rw[if_neg (not_not_intro b),if_neg (by rw[d];simp),if_pos j]
    rw[e]at hg ⊢
    exact oD rfl hL hg f i hbw (.inl rfl) hc
  · have e:rq s t fee=(⟨pI (pI s.own t 0 t.h0 fee) t 1 t.h1 0,s.ls++[(s.cs,t.ch,t)],s.cs+1,s.lh,s.ck,s.lost+fee⟩,0):=by unfold rq;rw[if_neg (not_not_intro b),if_neg (by rw[d];simp),if_neg j]
    rw[e]at hg ⊢
    exact oD rfl hL hg f i hbw (.inl rfl) hc
theorem Od (ch:Int)(fee:lv)(h:lM w base gp F s):Calls prog 17 #[.pointer (some ⟨gp,0,none⟩),.int .i64 ch,.agg (lW fee).toArray] w (Bl w base gp F (qU s ch fee)):=by
  have hbw:=h.size
  have hgd:=h.good
  have hg:=(KC hgd ch fee).1
  obtain⟨gs,gh,A,c,l,m,d,f⟩:=h
  refine Calls.mono (NT ch fee w l hgd.Et (U4 hgd) (QV hgd) hgd.ownB hgd.LY) ?_
  rintro r w' ⟨hc,hr⟩
  rcases hr with⟨b,rfl,hL⟩|⟨b,i,rfl,hL⟩|⟨b,t,i,⟨j,rfl,hL⟩|⟨j,k,rfl,hL⟩|⟨j,k,rfl,hL⟩⟩
  · have e:qU s ch fee=(s,1):=by unfold qU;rw[if_pos b]
    rw[e]at hg ⊢
    exact oD rfl hL hg d f hbw (.inl rfl) hc
  · have e:qU s ch fee=(s,5):=by unfold qU;rw[if_neg (not_not_intro b),i]
    rw[e]at hg ⊢
    exact oD rfl hL hg d f hbw (.inl rfl) hc
  · have e:qU s ch fee=(s,14):=by unfold qU;rw[if_neg (not_not_intro b),i];simp only;rw[if_pos j]
    rw[e]at hg ⊢
    exact oD rfl hL hg d f hbw (.inl rfl) hc
  · have e:qU s ch fee=(s,8):=by unfold qU;rw[if_neg (not_not_intro b),i];simp only;rw[if_neg (not_not_intro j),if_pos k]
    rw[e]at hg ⊢
    exact oD rfl hL hg d f hbw (.inl rfl) hc
  · have e:qU s ch fee=(⟨xq s.own t fee 2,pJ ch s.ls,s.cs,s.lh,s.ck,pK s.lost fee 2⟩,0):=by unfold qU;rw[if_neg (not_not_intro b),i];simp only;rw[if_neg (not_not_intro j),if_neg k]
    rw[e]at hg ⊢
    exact oD rfl hL hg d f hbw (.inl rfl) hc
theorem Oe (ch side id am:Int)(pt:Nat)(hpt:pt<18446744073709551616)(h:lM w base gp F s):Calls prog 15 #[.pointer (some ⟨gp,0,none⟩),.int .i64 ch,.int .i64 side,.int .i64 id,.int .i64 am,.int .u64 ((pt:Nat):Int)] w (Bl w base gp F (qz s ch side id am pt)):=by
  have hbw:=h.size
  have hgd:=h.good
  have hg:=(KD hgd ch side id am pt).1
  obtain⟨gs,gh,A,c,l,m,d,f⟩:=h
  refine Calls.mono (NP ch side id am pt w l hpt (QT hgd)) ?_
  rintro r w' ⟨hc,hr⟩
  rcases hr with⟨b,rfl,hL⟩|⟨b,i,rfl,hL⟩|⟨b,t,i,⟨x,j,rfl,hL⟩|⟨j,⟨k,rfl,hL⟩|⟨k,rfl,hL⟩⟩⟩
  · have e:qz s ch side id am pt=(s,1):=by unfold qz;rw[if_pos b]
    rw[e]at hg ⊢
    exact oD rfl hL hg d f hbw (.inl rfl) hc
  · have e:qz s ch side id am pt=(s,5):=by unfold qz;rw[if_neg (not_not_intro b),i]
    rw[e]at hg ⊢
    exact oD rfl hL hg d f hbw (.inl rfl) hc
  · have e:qz s ch side id am pt=(s,4):=by unfold qz;rw[if_neg (not_not_intro b),i];simp only;rw[if_pos (by rw[j];rfl)]
    rw[e]at hg ⊢
    exact oD rfl hL hg d f hbw (.inl rfl) hc
  · have e:qz s ch side id am pt=(s,8):=by unfold qz;rw[if_neg (not_not_intro b),i];simp only;rw[if_neg (by rw[j];simp),if_pos k]
    rw[e]at hg ⊢
    exact oD rfl hL hg d f hbw (.inl rfl) hc
  · have e:qz s ch side id am pt=(⟨s.own,oq ch (t.setH side.toNat (t.h side.toNat-am)) s.ls,s.cs,s.lh++[(s.ck,⟨ch,side,id⟩,⟨am,pt⟩)],s.ck+1,s.lost⟩,0):=by unfold qz;rw[if_neg (not_not_intro b),i];simp only;rw[if_neg (by rw[j];simp),if_neg k]
    rw[e]at hg ⊢
    exact oD rfl hL hg d f hbw (.inl rfl) hc
theorem ET (ch side id:Int)(sec:Nat)(h:lM w base gp F s):Calls prog 18 #[.pointer (some ⟨gp,0,none⟩),.int .i64 ch,.int .i64 side,.int .i64 id,.int .u64 ((sec:Nat):Int)] w (Bl w base gp F (qi s ch side id sec)):=by
  have hbw:=h.size
  have hgd:=h.good
  have hg:=(Jn hgd ch side id sec).1
  obtain⟨gs,gh,A,c,j,l,d,f⟩:=h
  refine Calls.mono (KY ch side id sec w j (QT hgd) (U3 hgd)) ?_
  rintro r w' ⟨hc,hr⟩
  rcases hr with⟨b,rfl,hL⟩|⟨x,b,⟨i,rfl,hL⟩|⟨i,rfl,t,k,hL⟩⟩
  · have e:qi s ch side id sec=(s,5):=by unfold qi;rw[b]
    rw[e]at hg ⊢
    exact oD rfl hL hg d f hbw (.inl rfl) hc
  · have e:qi s ch side id sec=(s,23):=by unfold qi;rw[b];simp only;rw[if_pos i]
    rw[e]at hg ⊢
    exact oD rfl hL hg d f hbw (.inl rfl) hc
  · have e:qi s ch side id sec=(Jj s ch side id x t (1-side),0):=by unfold qi;rw[b];simp only;rw[if_neg (not_not_intro i),k];rfl
    rw[e]at hg ⊢
    exact oD rfl hL hg d f hbw (.inl rfl) hc
theorem QW (ch side id:Int)(h:lM w base gp F s):Calls prog 19 #[.pointer (some ⟨gp,0,none⟩),.int .i64 ch,.int .i64 side,.int .i64 id] w (Bl w base gp F (AU s ch side id)):=by
  have hbw:=h.size
  have hgd:=h.good
  have hg:=(Ng hgd ch side id).1
  obtain⟨gs,gh,A,c,i,k,d,f⟩:=h
  refine Calls.mono (QL ch side id w i (QT hgd) (U3 hgd)) ?_
  rintro r w' ⟨hc,hr⟩
  rcases hr with⟨b,rfl,hL⟩|⟨x,b,rfl,t,j,hL⟩
  · have e:AU s ch side id=(s,5):=by unfold AU;rw[b]
    rw[e]at hg ⊢
    exact oD rfl hL hg d f hbw (.inl rfl) hc
  · have e:AU s ch side id=(Jj s ch side id x t side,0):=by unfold AU;rw[b];simp only;rw[j];rfl
    rw[e]at hg ⊢
    exact oD rfl hL hg d f hbw (.inl rfl) hc
theorem Mw {Ag:Option Addr}{ng cg:Nat}{jU:List xn}(h:lM w base gp F s)(hg0:Vec w Bf 3 Ag ng jU)(hng:ng<=1000)(hga:∀q,lU Ag=some q->0<ng->q<w.heap.size->¬F q):Calls prog 20 #[.pointer (some ⟨gp,0,none⟩),.slice Ag ng cg] w (Bl w base gp F (Ev s jU)):=by
  have hbw:=h.size
  have hgd:=h.good
  have hg:=(Pz hgd jU).1
  obtain⟨gs,gh,A,c,k,m,f,j⟩:=h
  refine Calls.mono (TI w k hg0 hng (QS hgd) (fun q a b d e=>hga q a b d ((f q).2 e))) ?_
  rintro r w' ⟨hc,hr⟩
  rcases hr with⟨i,rfl,hL⟩|⟨i,rfl,gs',l,hL⟩
  · have e:Ev s jU=(s,(l6 s.ls jU).2):=by unfold Ev;rw[if_pos i]
    rw[e]at hg ⊢
    exact oD rfl hL hg f j hbw (.inl rfl) hc
  · have e:Ev s jU=(⟨s.own,(l6 s.ls jU).1,s.cs,s.lh,s.ck,s.lost⟩,0):=by unfold Ev;rw[if_neg (by simpa using i)]
    rw[e]at hg ⊢
    exact oD rfl hL hg f j hbw (.inr l) hc
theorem EU (ch:Int)(d fee:lv)(hd:∀k,k<2-> -9223372036854775808<=d.ix k/\d.ix k<=9223372036854775807)(h:lM w base gp F s):Calls prog 10 #[.pointer (some ⟨gp,0,none⟩),.int .i64 ch,.agg (lW d).toArray,.agg (lW fee).toArray] w (Bl w base gp F (nV s ch d fee)):=by
  have hbw:=h.size
  have hgd:=h.good
  have hg:=(Jo hgd ch d fee).1
  obtain⟨gs,gh,A,c,n,o,f,i⟩:=h
  refine Calls.mono (KZ ch d fee w n hd (QV hgd) hgd.ownB hgd.LY) ?_
  rintro r w' ⟨hc,hr⟩
  rcases hr with⟨b,rfl,hL⟩|⟨b,j,rfl,hL⟩|⟨b,t,j,⟨l,rfl,hL⟩|⟨l,rfl,hL⟩⟩
  · have e:nV s ch d fee=(s,1):=by unfold nV;rw[if_pos b]
    rw[e]at hg ⊢
    exact oD rfl hL hg f i hbw (.inl rfl) hc
  · have e:nV s ch d fee=(s,5):=by unfold nV;rw[if_neg (not_not_intro b),j]
    rw[e]at hg ⊢
    exact oD rfl hL hg f i hbw (.inl rfl) hc
  · have m:xH s.own t d fee 0\/xH s.own t d fee 1:=by
      obtain⟨k,hk,hh⟩:=l
      have:k=0\/k=1:=by omega
      rcases this with rfl|rfl
      · exact .inl hh
      · exact .inr hh
    have e:nV s ch d fee=(s,8):=by unfold nV;rw[if_neg (not_not_intro b),j];simp only;rw[if_pos m]
    rw[e]at hg ⊢
    exact oD rfl hL hg f i hbw (.inl rfl) hc
  · have m:¬(xH s.own t d fee 0\/xH s.own t d fee 1):=by
      rintro(hh|hh)
      · exact l 0 (by omega) hh
      · exact l 1 (by omega) hh
    have e:nV s ch d fee=(⟨M5 s.own (o8 t d 2) d fee 2,oq ch (o8 t d 2) s.ls,s.cs,s.lh,s.ck,pK s.lost fee 2⟩,0):=by unfold nV;rw[if_neg (not_not_intro b),j];simp only;rw[if_neg m]
    rw[e]at hg ⊢
    exact oD rfl hL hg f i hbw (.inl rfl) hc
theorem TU {Ao As Af:Option Addr}{no co ns cS nf cf:Nat}{old fee:List Int}{ss:List Seat}(h:lM w base gp F s)(ho:Vec w iv 1 Ao no old)(hs:Vec w jT 5 As ns ss)(hf:Vec w iv 1 Af nf fee)(hno:no<=1000)(hns:ns<=1000)(hnf:nf<=1000)
    (hoa:∀q,lU Ao=some q->0<no->q<w.heap.size->¬F q)(hsa:∀q,lU As=some q->0<ns->q<w.heap.size->¬F q)(hfa:∀q,lU Af=some q->0<nf->q<w.heap.size->¬F q):
    Calls prog 21 #[.pointer (some ⟨gp,0,none⟩),.slice Ao no co,.slice As ns cS,.slice Af nf cf] w (Bl w base gp F (sI s old ss fee)):=by
  have hbw:=h.size
  have hgd:=h.good
  have hg:=(PK hgd old ss fee).1
  obtain⟨gs,gh,A,c,k,l,f,j⟩:=h
  refine Calls.mono (TT w k ho hs hf hno hns hnf (fun q a b d e=>hoa q a b d ((f q).2 e)) (fun q a b d e=>hsa q a b d ((f q).2 e)) (fun q a b d e=>hfa q a b d ((f q).2 e)) hgd.Et (U4 hgd) (QV hgd) hgd.LY) ?_
  rintro r w' ⟨hc,rfl,hr⟩
  rcases hr with⟨i,hL⟩|⟨i,hL⟩
  · have e:sI s old ss fee=(s,rP s.own.length s.ls s.lh old ss fee):=by unfold sI;rw[if_pos i]
    rw[e]at hg ⊢
    exact oD rfl hL hg f j hbw (.inl rfl) hc
  · have e:sI s old ss fee=(⟨s.own,(y9 s.ls s.cs old ss).1,(y9 s.ls s.cs old ss).2,s.lh,s.ck,s.lost+fee.sum⟩,0):=by unfold sI;rw[if_neg (not_not_intro i)]
    rw[e]at hg ⊢
    exact oD (by rw[i]) hL hg f j hbw (.inl rfl) hc
theorem Bn (party:Int)(h:lM w base gp F s):Calls prog 13 #[.pointer (some ⟨gp,0,none⟩),.int .i64 party] w fun r w'=>r= .returned (.int .i64 (tJ s.own party))/\Le w w':=by
  obtain⟨gs,gh,A,c,b,d,e,f⟩:=h
  exact Mm party w b
theorem EW (h:lM w base gp F s):Calls prog 12 #[.pointer (some ⟨gp,0,none⟩)] w fun r w'=>r= .returned (.int .i64 s.lost)/\Le w w':=by
  obtain⟨gs,gh,A,c,b,d,e,f⟩:=h
  exact TF w b
theorem JN (ch:Int)(h:lM w base gp F s):Calls prog 11 #[.pointer (some ⟨gp,0,none⟩),.int .i64 ch] w fun r w'=>r= .returned (.tuple #[.agg (jT (nJ s.ls ch)).toArray,.bool (jW ch s.ls).isSome])/\Le w w':=by
  obtain⟨gs,gh,A,c,b,d,e,f⟩:=h
  exact QH ch w b
theorem QX (ch side:Int)(h:lM w base gp F s):Calls prog 16 #[.pointer (some ⟨gp,0,none⟩),.int .i64 ch,.int .i64 side] w fun r w'=>r= .returned (.int .i64 (kE s.lh ch side))/\Le w w':=by
  have hgd:=h.good
  obtain⟨gs,gh,A,c,b,d,e,f⟩:=h
  exact Bi ch side w b hgd.Et (by have:=(hgd.F4 ch side).2;omega)
theorem wy (party:Int)(h:lM w base gp F s):Calls prog 14 #[.pointer (some ⟨gp,0,none⟩),.int .i64 party] w fun r w'=>r= .returned (.int .i64 (nM s.own s.ls s.lh party))/\Le w w':=by
  have hgd:=h.good
  obtain⟨gs,gh,A,c,b,d,e,f⟩:=h
  exact Gq party w b hgd.Et (QU hgd) (Ez hgd party).2 (by have:=Jp hgd party;omega)
theorem Og (h:lM w base gp F s):Calls prog 23 #[.pointer (some ⟨gp,0,none⟩)] w fun r w'=>r= .returned (.int .i64 (s.all-s.lost))/\Le w w':=by
  have hgd:=h.good
  obtain⟨gs,gh,A,c,b,d,e,f⟩:=h
  have ht:=F8 hgd
  refine Calls.mono (NS w b hgd.Et (QU hgd) (fun i=>(Ez hgd i).2) (by have:=hgd.len;omega) (fun i=>by have b:=Ez hgd i;have d:=Jp hgd i;omega)) ?_
  rintro r w' ⟨rfl,hl⟩
  exact⟨by rw[ht];unfold qp.all;congr 2;omega,hl⟩
theorem Oh (h:lM w base gp F s):Calls prog 22 #[.pointer (some ⟨gp,0,none⟩)] w fun r w'=>∃(A:Option Addr) (c:Nat),r= .returned (.slice A (Cm s.ls).length c)/\jO w' w.heap.size 70 jT 5 A (Cm s.ls).length c (Cm s.ls)/\Le w w':=by
  have hgd:=h.good
  obtain⟨gs,gh,A,c,b,d,f,i⟩:=h
  refine Calls.mono (N9 w b (fun x hx=>by have:=(hgd.seats x hx).2.1;unfold V4;omega) (by have:=hgd.few;omega)) ?_
  rintro r w' ⟨A',c',ns,rfl,hp,hw,ho,hl⟩
  have e:ns=PR (mW s.ls):=Jw (hp.trans (Ck _).symm) hw (Jv _)
  subst e
  exact⟨A',c',by rw[EB],ho.cast (EB _).symm rfl,hl⟩
theorem Mx {Aw:Option Addr}{nw cw:Nat}{own:List Int}(w:World)(hO:Vec w iv 1 Aw nw own)(hn:Am own):Calls prog 8 #[.slice Aw nw cw] w fun r w'=>∃gp F,r= .returned (.pointer (some ⟨gp,0,none⟩))/\lM w' w.heap.size gp F ⟨own,[],0,[],0,0⟩/\Le w w':=by
  refine Calls.mono (Ms w hO) ?_
  rintro r w' (⟨q,_⟩|⟨q,gp,gs,gh,A,c,rfl,hL,hk,hl⟩)
  · exact absurd hn q
  · exact⟨gp,LF gp gs gh A c,rfl,⟨gs,gh,A,c,hL,(PE q).1,fun _=>Iff.rfl,hk⟩,hl⟩
theorem EX {Aw:Option Addr}{nw cw:Nat}{own:List Int}(w:World)(hO:Vec w iv 1 Aw nw own)(hn:¬Am own):Calls prog 8 #[.slice Aw nw cw] w fun r w'=>r= .returned (.pointer none)/\Le w w':=by
  refine Calls.mono (Ms w hO) ?_
  rintro r w' (⟨q,h⟩|⟨q,_⟩)
  · exact h
  · exact absurd q hn
end
end Go.Proofs.YtcaehidaejhdfaaGreat

namespace Go.Proofs.YtcaehidaejhdfaaGreat
open Tryz
open Go Go.Sx Go.Num Go.rZ Go.Lsp
set_option maxRecDepth 20000
theorem Gx {d:Nat}(a b:lv):Ad prog (d+2) 52 (.agg (lW a).toArray) (.agg (lW b).toArray) (decide (a=b)):=by
  have h:=Ad.arr (P:=prog) (d:=d+1) (xs:=(lW a).toArray) (ys:=(lW b).toArray) (fun i=>decide (a.ix i=b.ix i)) (fun i=> .int .i64 (a.ix i)) (fun i=> .int .i64 (b.ix i)) underlying52 kz (fun i hi w=>mr j5 (by rw[Nat.mul_one];exact Bj a hi) w) (fun i hi w=>mr j5 (by rw[Nat.mul_one];exact Bj b hi) w) (fun i hi=>Ad.int (P:=prog) _ _ underlying3)
  have e:((List.range 2).all fun i=>decide (a.ix i=b.ix i))=decide (a=b):=by
    obtain⟨c,f⟩:=a
    obtain⟨j,k⟩:=b
    rw[Bool.eq_iff_iff]
    simp[List.range_succ,lv.ix]
  rw[e]at h
  exact h
namespace S46
def s0:qp:=⟨[100,100,50],[],0,[],0,0⟩
def s1:qp:=(rq s0 (⟨3,0,1,60,0⟩:Seat) 5).1
theorem e1:rq s0 (⟨3,0,1,60,0⟩:Seat) 5=(s1,0):=by decide+kernel
theorem e2:rq s1 (⟨3,1,2,0,0⟩:Seat) 0=(s1,4):=by decide+kernel
theorem e3:rq s1 (⟨4,0,1,36,0⟩:Seat) 0=(s1,8):=by decide+kernel
theorem e4:tJ s1.own 0=35:=by decide+kernel
theorem e5:nM s1.own s1.ls s1.lh 0=95:=by decide+kernel
def s6:qp:=(qz s1 3 0 1 40 16).1
theorem e6:qz s1 3 0 1 40 16=(s6,0):=by decide+kernel
theorem e7:kE s6.lh 3 0=40:=by decide+kernel
theorem e8:nM s6.own s6.ls s6.lh 0=95:=by decide+kernel
theorem e9:qU s6 3 (⟨0,0⟩:lv)=(s6,14):=by decide+kernel
theorem e10:qi s6 3 0 1 3=(s6,23):=by decide+kernel
def s11:qp:=(qi s6 3 0 1 2).1
theorem e11:qi s6 3 0 1 2=(s11,0):=by decide+kernel
theorem e12:nM s11.own s11.ls s11.lh 1=140:=by decide+kernel
theorem e13:AU s11 3 0 1=(s11,5):=by decide+kernel
def ZE:qp:=(rq s11 (⟨7,1,2,30,10⟩:Seat) 0).1
theorem e14:rq s11 (⟨7,1,2,30,10⟩:Seat) 0=(ZE,0):=by decide+kernel
def s15:qp:=(Ev ZE [(⟨3,0,12⟩:xn),(⟨7,0,11⟩:xn)]).1
theorem e15:Ev ZE [(⟨3,0,12⟩:xn),(⟨7,0,11⟩:xn)]=(s15,0):=by decide+kernel
theorem e16:nM s15.own s15.ls s15.lh 2=61:=by decide+kernel
theorem e17:Ev s15 [(⟨3,0,1⟩:xn),(⟨7,0,99⟩:xn)]=(s15,8):=by decide+kernel
theorem e18:nM s15.own s15.ls s15.lh 0=43:=by decide+kernel
def ZF:qp:=(sI s15 [3,7] [(⟨3,0,2,8,21⟩:Seat),(⟨9,1,0,70,0⟩:Seat)] [0,1,0]).1
theorem e19:sI s15 [3,7] [(⟨3,0,2,8,21⟩:Seat),(⟨9,1,0,70,0⟩:Seat)] [0,1,0]=(ZF,0):=by decide+kernel
def s20:qp:=(nV ZF 9 (⟨(-20),30⟩:lv) (⟨2,0⟩:lv)).1
theorem e20:nV ZF 9 (⟨(-20),30⟩:lv) (⟨2,0⟩:lv)=(s20,0):=by decide+kernel
theorem e21:tJ s20.own 1=88:=by decide+kernel
theorem e22:tJ s20.own 0=5:=by decide+kernel
theorem abp:nJ s20.ls 9=⟨9,1,0,50,30⟩:=by decide+kernel
theorem abq:(jW 9 s20.ls).isSome=true:=by decide+kernel
theorem abr:(Cm s20.ls).length=2:=by decide+kernel
theorem abt:s20.all-s20.lost=242:=by decide+kernel
theorem Zd:s20.lost=8:=by decide+kernel
end S46
open S46
theorem K5 (w:World):Calls prog 4 #[] w fun r w'=>r= .returned (.bool true)/\Le w w':=by
 refine enter func4 rfl rfl (Sr (Wn 1 rfl (Nx (Sr (W.ef rfl rfl rfl (Ef.jX (len:=3) [_,_,_] underlying67 Mf rfl (by simp[Value.cells]) rfl (by decide) (by decide) ?_))))))
 intro ac t a4 u a5
 have b:=(Le.refl w).trans a5
 have u:jL t ac 3 (([100,100,50]).map iv).flatten.toArray:=u
 have a6:jO t w.heap.size 3 iv 1 (some ⟨ac,0,none⟩) 3 3 ([100,100,50]):=u.pQ a4 kr rfl rfl (by decide)
 refine W.cl X4 rfl rfl (Mx t a6.vec (by decide)) ?_
 rintro _ a7 ⟨bN,bO,rfl,a8,a9⟩
 refine Wn 1 rfl (Nx (Sq (Sr (Wn 1 rfl (Wa (.dec (.PU (by kernel_rfl) rfl) rfl) rfl (Wn 1 rfl (W.mY rfl rfl rfl rfl rfl rfl (Ef.call X4 rfl rfl (EX a7 (Vec.nil _ _ _ _) (by decide)) ?_))))))))
 rintro _ ba ⟨rfl,ad⟩
 refine⟨_,rfl,?_⟩
 refine Wg (Any.rd (.dec (.Hr (by kernel_rfl) rfl) rfl) _) rfl (Wn 2 rfl (W.mY rfl rfl rfl rfl rfl rfl (Ef.jX (len:=2) [_,_] underlying67 Mf rfl (by simp[Value.cells]) rfl (by decide) (by decide) ?_)))
 intro ae x bb y af
 have y:jL x ae 3 (([1125899906842624,1]).map iv).flatten.toArray:=y
 have bc:jO x ba.heap.size 3 iv 1 (some ⟨ae,0,none⟩) 2 2 ([1125899906842624,1]):=y.pQ bb kr rfl rfl (by decide)
 refine W.mY rfl rfl rfl rfl rfl rfl (Ef.call X4 rfl rfl (EX x bc.vec (by decide)) ?_)
 rintro _ bd ⟨rfl,ah⟩
 refine⟨_,rfl,?_⟩
 refine Wg (Any.rd (.dec (.Hr (by kernel_rfl) rfl) rfl) _) rfl (Wn 2 rfl (W.mY rfl rfl rfl rfl rfl rfl (Ef.jX (len:=1) [_] underlying67 Mf rfl (by simp[Value.cells]) rfl (by decide) (by decide) ?_)))
 intro ai z be A aj
 have A:jL z ai 3 (([(-1)]).map iv).flatten.toArray:=A
 have bf:jO z bd.heap.size 3 iv 1 (some ⟨ai,0,none⟩) 1 1 ([(-1)]):=A.pQ be kr rfl rfl (by decide)
 refine W.mY rfl rfl rfl rfl rfl rfl (Ef.call X4 rfl rfl (EX z bf.vec (by decide)) ?_)
 rintro _ bP ⟨rfl,ak⟩
 refine⟨_,rfl,?_⟩
 refine Wg (Any.rd (.dec (.Hr (by kernel_rfl) rfl) rfl) _) rfl (Wn 1 rfl (Nx (WC.kF rfl (Sn (Sr (Wn 1 rfl (Wa (.mZ (cells:=(lW (⟨0,1⟩:lv)).toArray) underlying52 kz z52 rfl rfl) rfl (Wa (.mZ (cells:=(lW (⟨60,0⟩:lv)).toArray) underlying52 kz z52 rfl rfl) rfl (Wa (.kK (jT (⟨3,0,1,60,0⟩:Seat)) KS z70 rfl rfl) rfl ?_)))))))))
 have f8:=(a8.le (ad.trans (af.trans (ah.trans (aj.trans ak)))))
 refine W.cl X5 rfl rfl (by have h:=yg (s:=s0) (⟨3,0,1,60,0⟩:Seat) 5 f8;rw[e1]at h;exact h) ?_
 rintro _ bQ ⟨bR,rfl,al,bS,bg⟩
 refine Wa (.dec (.eql rfl rfl) (show _=true from by first|decide|rfl)) rfl ?_
 refine Wn 2 rfl (Wg (Any.rd (.mZ (cells:=(lW (⟨1,2⟩:lv)).toArray) underlying52 kz z52 rfl rfl) _) rfl (Wg (Any.rd (.kK (jT (⟨3,1,2,0,0⟩:Seat)) KS z70 rfl rfl) _) rfl (W.mY rfl rfl rfl rfl rfl rfl (Ef.call X5 rfl rfl (by have h:=yg (s:=s1) (⟨3,1,2,0,0⟩:Seat) 0 al;rw[e2]at h;exact h) ?_))))
 rintro _ bT ⟨bU,rfl,am,bV,bh⟩
 refine⟨_,rfl,?_⟩
 refine Wg (Any.rd (.dec (.eql rfl rfl) (show _=true from by first|decide|rfl)) _) rfl ?_
 refine Wn 3 rfl (Wg (Any.rd (.mZ (cells:=(lW (⟨0,1⟩:lv)).toArray) underlying52 kz z52 rfl rfl) _) rfl (Wg (Any.rd (.mZ (cells:=(lW (⟨36,0⟩:lv)).toArray) underlying52 kz z52 rfl rfl) _) rfl (Wg (Any.rd (.kK (jT (⟨4,0,1,36,0⟩:Seat)) KS z70 rfl rfl) _) rfl (W.mY rfl rfl rfl rfl rfl rfl (Ef.call X5 rfl rfl (by have h:=yg (s:=s1) (⟨4,0,1,36,0⟩:Seat) 0 am;rw[e3]at h;exact h) ?_)))))
 rintro _ bW ⟨bX,rfl,an,bY,bi⟩
 refine⟨_,rfl,?_⟩
 refine Wg (Any.rd (.dec (.eql rfl rfl) (show _=true from by first|decide|rfl)) _) rfl ?_
 refine Wn 3 rfl (W.mY rfl rfl rfl rfl rfl rfl (Ef.call NC rfl rfl (by have h:=Bn (s:=s1) 0 an;rw[e4]at h;exact h) ?_))
 rintro _ bZ ⟨rfl,ao⟩
 refine⟨_,rfl,?_⟩
 refine Wg (Any.rd (.dec (.eql rfl rfl) (show _=true from by first|decide|rfl)) _) rfl ?_
 refine Wn 3 rfl ?_
 have ap:=(an.le ao)
 refine W.mY rfl rfl rfl rfl rfl rfl (Ef.call ND rfl rfl (by have h:=wy (s:=s1) 0 ap;rw[e5]at h;exact h) ?_)
 rintro _ b0 ⟨rfl,aq⟩
 refine⟨_,rfl,?_⟩
 refine Wg (Any.rd (.dec (.eql rfl rfl) (show _=true from by first|decide|rfl)) _) rfl ?_
 refine Wn 2 rfl (Nx (Sr (Wn 1 rfl ?_)))
 have ar:=(ap.le aq)
 refine W.cl aaF rfl rfl (by have h:=Oe (s:=s1) 3 0 1 40 16 (by omega) ar;rw[e6]at h;exact h) ?_
 rintro _ b1 ⟨b2,rfl,au,b3,bj⟩
 refine Wa (.dec (.eql rfl rfl) (show _=true from by first|decide|rfl)) rfl ?_
 refine Wn 2 rfl (W.mY rfl rfl rfl rfl rfl rfl (Ef.call Tp rfl rfl (by have h:=QX (s:=s6) 3 0 au;rw[e7]at h;exact h) ?_))
 rintro _ b4 ⟨rfl,av⟩
 refine⟨_,rfl,?_⟩
 refine Wg (Any.rd (.dec (.eql rfl rfl) (show _=true from by first|decide|rfl)) _) rfl ?_
 refine Wn 3 rfl ?_
 have aw:=(au.le av)
 refine W.mY rfl rfl rfl rfl rfl rfl (Ef.call ND rfl rfl (by have h:=wy (s:=s6) 0 aw;rw[e8]at h;exact h) ?_)
 rintro _ b5 ⟨rfl,ax⟩
 refine⟨_,rfl,?_⟩
 refine Wg (Any.rd (.dec (.eql rfl rfl) (show _=true from by first|decide|rfl)) _) rfl ?_
 refine Wn 3 rfl (Wg (Any.rd (.mZ (cells:=(lW (⟨0,0⟩:lv)).toArray) underlying52 kz z52 rfl rfl) _) rfl ?_)
 have ay:=(aw.le ax)
 refine W.mY rfl rfl rfl rfl rfl rfl (Ef.call aaG rfl rfl (by have h:=Od (s:=s6) 3 (⟨0,0⟩:lv) ay;rw[e9]at h;exact h) ?_)
 rintro _ b6 ⟨b7,rfl,az,b8,bk⟩
 refine⟨_,rfl,?_⟩
 refine Wg (Any.rd (.dec (.eql rfl rfl) (show _=true from by first|decide|rfl)) _) rfl ?_
 refine Wn 3 rfl (W.mY rfl rfl rfl rfl rfl rfl (Ef.call X8 rfl rfl (by have h:=ET (s:=s6) 3 0 1 3 az;rw[e10]at h;exact h) ?_))
 rintro _ b9 ⟨ca,rfl,aA,cc,bl⟩
 refine⟨_,rfl,?_⟩
 have bm:=(((((((((((((((b.trans a9).trans ad).trans af).trans ah).trans aj).trans ak).kM bg (fun i hi=>Nat.le_trans b.size (f8.old hi))).kM bh (fun i hi=>Nat.le_trans b.size (al.old hi))).kM bi (fun i hi=>Nat.le_trans b.size (am.old hi))).trans ao).trans aq).kM bj (fun i hi=>Nat.le_trans b.size (ar.old hi))).trans av).trans ax).kM bk (fun i hi=>Nat.le_trans b.size (ay.old hi))).kM bl (fun i hi=>Nat.le_trans b.size (az.old hi))
 refine Wg (Any.rd (.dec (.eql rfl rfl) (show _=true from by first|decide|rfl)) _) rfl ?_
 refine Wn 3 rfl (W.mY rfl rfl rfl rfl rfl rfl (Ef.call X8 rfl rfl (by have h:=ET (s:=s6) 3 0 1 2 aA;rw[e11]at h;exact h) ?_))
 rintro _ cd ⟨ce,rfl,aB,ci,bn⟩
 refine⟨_,rfl,?_⟩
 refine Wg (Any.rd (.dec (.eql rfl rfl) (show _=true from by first|decide|rfl)) _) rfl ?_
 refine Wn 3 rfl (W.mY rfl rfl rfl rfl rfl rfl (Ef.call ND rfl rfl (by have h:=wy (s:=s11) 1 aB;rw[e12]at h;exact h) ?_))
 rintro _ cj ⟨rfl,aC⟩
 refine⟨_,rfl,?_⟩
 refine Wg (Any.rd (.dec (.eql rfl rfl) (show _=true from by first|decide|rfl)) _) rfl ?_
 refine Wn 3 rfl ?_
 have aD:=(aB.le aC)
 refine W.mY rfl rfl rfl rfl rfl rfl (Ef.call aaH rfl rfl (by have h:=QW (s:=s11) 3 0 1 aD;rw[e13]at h;exact h) ?_)
 rintro _ ck ⟨cm,rfl,aE,cp,bo⟩
 refine⟨_,rfl,?_⟩
 refine Wg (Any.rd (.dec (.eql rfl rfl) (show _=true from by first|decide|rfl)) _) rfl ?_
 refine Wn 2 rfl (Nx (Sr (Wn 1 rfl (Wa (.mZ (cells:=(lW (⟨1,2⟩:lv)).toArray) underlying52 kz z52 rfl rfl) rfl (Wa (.mZ (cells:=(lW (⟨30,10⟩:lv)).toArray) underlying52 kz z52 rfl rfl) rfl (Wa (.kK (jT (⟨7,1,2,30,10⟩:Seat)) KS z70 rfl rfl) rfl (W.cl X5 rfl rfl (by have h:=yg (s:=s11) (⟨7,1,2,30,10⟩:Seat) 0 aE;rw[e14]at h;exact h) ?_)))))))
 rintro _ bp ⟨bq,rfl,aF,cq,bs⟩
 refine Wa (.dec (.eql rfl rfl) (show _=true from by first|decide|rfl)) rfl ?_
 refine Wn 2 rfl (Wg (Any.rd (.kK (Bf (⟨3,0,12⟩:xn)) Tx z91 rfl rfl) _) rfl (Wg (Any.rd (.kK (Bf (⟨7,0,11⟩:xn)) Tx z91 rfl rfl) _) rfl (W.mY rfl rfl rfl rfl rfl rfl (Ef.jX (len:=2) [_,_] underlying92 Tm rfl (by simp[Value.cells,sO.len]) rfl (by decide) (by decide) ?_))))
 intro B aG bt C aH
 have C:jL aG B 91 (([(⟨3,0,12⟩:xn),(⟨7,0,11⟩:xn)]).map Bf).flatten.toArray:=C
 have D:jO aG bp.heap.size 91 Bf 3 (some ⟨B,0,none⟩) 2 2 ([(⟨3,0,12⟩:xn),(⟨7,0,11⟩:xn)]):=C.pQ bt sO rfl rfl (by decide)
 have aI:=(aF.le aH)
 refine W.mY rfl rfl rfl rfl rfl rfl (Ef.call X9 rfl rfl (by have h:=Mw (s:=ZE) (cg:=2) aI D.vec (by omega) (fun q c j l=>(show∀g,rowOf (some ⟨B,0,none⟩) 2=some g->¬bq g from(fun g hg hF=>by have:=aF.lt hF;have:=(D.row hg).1;omega)) q (yc c (by have:=D.cap;omega)));rw[e15]at h;exact h) ?_)
 rintro _ cr ⟨bu,rfl,F,cs,bv⟩
 refine⟨_,rfl,?_⟩
 refine Wg (Any.rd (.dec (.eql rfl rfl) (show _=true from by first|decide|rfl)) _) rfl ?_
 refine Wn 3 rfl (W.mY rfl rfl rfl rfl rfl rfl (Ef.call ND rfl rfl (by have h:=wy (s:=s15) 2 F;rw[e16]at h;exact h) ?_))
 rintro _ bw ⟨rfl,H⟩
 refine⟨_,rfl,?_⟩
 refine Wg (Any.rd (.dec (.eql rfl rfl) (show _=true from by first|decide|rfl)) _) rfl ?_
 refine Wn 3 rfl (Wg (Any.rd (.kK (Bf (⟨3,0,1⟩:xn)) Tx z91 rfl rfl) _) rfl (Wg (Any.rd (.kK (Bf (⟨7,0,99⟩:xn)) Tx z91 rfl rfl) _) rfl (W.mY rfl rfl rfl rfl rfl rfl (Ef.jX (len:=2) [_,_] underlying92 Tm rfl (by simp[Value.cells,sO.len]) rfl (by decide) (by decide) ?_))))
 intro I aJ bx J aK
 have J:jL aJ I 91 (([(⟨3,0,1⟩:xn),(⟨7,0,99⟩:xn)]).map Bf).flatten.toArray:=J
 have K:jO aJ bw.heap.size 91 Bf 3 (some ⟨I,0,none⟩) 2 2 ([(⟨3,0,1⟩:xn),(⟨7,0,99⟩:xn)]):=J.pQ bx sO rfl rfl (by decide)
 have aL:=(F.le (H.trans aK))
 refine W.mY rfl rfl rfl rfl rfl rfl (Ef.call X9 rfl rfl (by have h:=Mw (s:=s15) (cg:=2) aL K.vec (by omega) (fun q c j l=>(show∀g,rowOf (some ⟨I,0,none⟩) 2=some g->¬bu g from(fun g hg hF=>by have:=F.lt hF;have:=H.size;have:=(K.row hg).1;omega)) q (yc c (by have:=K.cap;omega)));rw[e17]at h;exact h) ?_)
 rintro _ ct ⟨L,rfl,e,cu,bz⟩
 refine⟨_,rfl,?_⟩
 refine Wg (Any.rd (.dec (.eql rfl rfl) (show _=true from by first|decide|rfl)) _) rfl ?_
 refine Wn 3 rfl (W.mY rfl rfl rfl rfl rfl rfl (Ef.call ND rfl rfl (by have h:=wy (s:=s15) 0 e;rw[e18]at h;exact h) ?_))
 rintro _ bA ⟨rfl,f⟩
 refine⟨_,rfl,?_⟩
 refine Wg (Any.rd (.dec (.eql rfl rfl) (show _=true from by first|decide|rfl)) _) rfl ?_
 refine Wn 2 rfl (Nx (Sr (Wn 1 rfl (W.ef rfl rfl rfl (Ef.jX (len:=2) [_,_] underlying67 Mf rfl (by simp[Value.cells]) rfl (by decide) (by decide) ?_)))))
 intro N O bB P m
 have P:jL O N 3 (([3,7]).map iv).flatten.toArray:=P
 have bC:jO O bA.heap.size 3 iv 1 (some ⟨N,0,none⟩) 2 2 ([3,7]):=P.pQ bB kr rfl rfl (by decide)
 refine Wa (.mZ (cells:=(lW (⟨0,2⟩:lv)).toArray) underlying52 kz z52 rfl rfl) rfl (Wa (.mZ (cells:=(lW (⟨8,21⟩:lv)).toArray) underlying52 kz z52 rfl rfl) rfl (Wa (.kK (jT (⟨3,0,2,8,21⟩:Seat)) KS z70 rfl rfl) rfl (Wa (.mZ (cells:=(lW (⟨1,0⟩:lv)).toArray) underlying52 kz z52 rfl rfl) rfl (Wa (.mZ (cells:=(lW (⟨70,0⟩:lv)).toArray) underlying52 kz z52 rfl rfl) rfl (Wa (.kK (jT (⟨9,1,0,70,0⟩:Seat)) KS z70 rfl rfl) rfl ?_)))))
 refine W.ef rfl rfl rfl (Ef.jX (len:=2) [_,_] underlying94 KJ rfl (by simp[Value.cells,jQ.len]) rfl (by decide) (by decide) ?_)
 intro Q R bD S n
 have S:jL R Q 70 (([(⟨3,0,2,8,21⟩:Seat),(⟨9,1,0,70,0⟩:Seat)]).map jT).flatten.toArray:=S
 have bE:jO R O.heap.size 70 jT 5 (some ⟨Q,0,none⟩) 2 2 ([(⟨3,0,2,8,21⟩:Seat),(⟨9,1,0,70,0⟩:Seat)]):=S.pQ bD jQ rfl rfl (by decide)
 refine W.ef rfl rfl rfl (Ef.jX (len:=3) [_,_,_] underlying67 Mf rfl (by simp[Value.cells]) rfl (by decide) (by decide) ?_)
 intro T aM bF U o
 have U:jL aM T 3 (([0,1,0]).map iv).flatten.toArray:=U
 have V:jO aM R.heap.size 3 iv 1 (some ⟨T,0,none⟩) 3 3 ([0,1,0]):=U.pQ bF kr rfl rfl (by decide)
 have aN:=(e.le (f.trans (m.trans (n.trans o))))
 have X:=(bC.le (n.trans o))
 have Y:=(bE.le o)
 refine W.cl aaI rfl rfl (by have h:=TU (s:=s15) (co:=2) (cS:=2) (cf:=3) aN X.vec Y.vec V.vec (by omega) (by omega) (by omega) (fun q c j l=>(show∀g,rowOf (some ⟨N,0,none⟩) 2=some g->¬L g from(fun g hg hF=>by have:=e.lt hF;have:=f.size;have:=(X.row hg).1;omega)) q (yc c (by have:=X.cap;omega))) (fun q c j l=>(show∀g,rowOf (some ⟨Q,0,none⟩) 2=some g->¬L g from(fun g hg hF=>by have:=e.lt hF;have:=f.size;have:=m.size;have:=(Y.row hg).1;omega)) q (yc c (by have:=Y.cap;omega))) (fun q c j l=>(show∀g,rowOf (some ⟨T,0,none⟩) 3=some g->¬L g from(fun g hg hF=>by have:=e.lt hF;have:=f.size;have:=m.size;have:=n.size;have:=(V.row hg).1;omega)) q (yc c (by have:=V.cap;omega)));rw[e19]at h;exact h) ?_
 rintro _ cv ⟨cw,rfl,aO,cx,bG⟩
 refine Wa (.dec (.eql rfl rfl) (show _=true from by first|decide|rfl)) rfl ?_
 refine Wn 2 rfl (Wg (Any.rd (.mZ (cells:=(lW (⟨(-20),30⟩:lv)).toArray) underlying52 kz z52 rfl rfl) _) rfl (Wg (Any.rd (.mZ (cells:=(lW (⟨2,0⟩:lv)).toArray) underlying52 kz z52 rfl rfl) _) rfl (W.mY rfl rfl rfl rfl rfl rfl (Ef.call X6 rfl rfl (by have h:=EU (s:=ZF) 9 (⟨(-20),30⟩:lv) (⟨2,0⟩:lv) (by intro k hk;have:k=0\/k=1:=(by omega);rcases this with rfl|rfl<;>simp[lv.ix]) aO;rw[e20]at h;exact h) ?_))))
 rintro _ cy ⟨cz,rfl,aP,cA,bH⟩
 refine⟨_,rfl,?_⟩
 have bI:=((((((((((((((bm.kM bn (fun i hi=>Nat.le_trans b.size (aA.old hi))).trans aC).kM bo (fun i hi=>Nat.le_trans b.size (aD.old hi))).kM bs (fun i hi=>Nat.le_trans b.size (aE.old hi))).trans aH).kM bv (fun i hi=>Nat.le_trans b.size (aI.old hi))).trans H).trans aK).kM bz (fun i hi=>Nat.le_trans b.size (aL.old hi))).trans f).trans m).trans n).trans o).kM bG (fun i hi=>Nat.le_trans b.size (aN.old hi))).kM bH (fun i hi=>Nat.le_trans b.size (aO.old hi))
 refine Wg (Any.rd (.dec (.eql rfl rfl) (show _=true from by first|decide|rfl)) _) rfl ?_
 refine Wn 3 rfl (W.mY rfl rfl rfl rfl rfl rfl (Ef.call NC rfl rfl (by have h:=Bn (s:=s20) 1 aP;rw[e21]at h;exact h) ?_))
 rintro _ cB ⟨rfl,aQ⟩
 refine⟨_,rfl,?_⟩
 refine Wg (Any.rd (.dec (.eql rfl rfl) (show _=true from by first|decide|rfl)) _) rfl ?_
 refine Wn 3 rfl ?_
 have aR:=(aP.le aQ)
 refine W.mY rfl rfl rfl rfl rfl rfl (Ef.call NC rfl rfl (by have h:=Bn (s:=s20) 0 aR;rw[e22]at h;exact h) ?_)
 rintro _ cC ⟨rfl,aS⟩
 refine⟨_,rfl,?_⟩
 refine Wg (Any.rd (.dec (.eql rfl rfl) (show _=true from by first|decide|rfl)) _) rfl ?_
 refine Wn 2 rfl (Nx (Sr (Wn 1 rfl ?_)))
 have Z:=(aR.le aS)
 refine W.cl X7 rfl rfl (by have h:=JN (s:=s20) 9 Z;rw[abp,abq]at h;exact h) ?_
 rintro _ cD ⟨rfl,aa⟩
 have aT:=((bI.trans aQ).trans aS).trans aa
 refine Wn 1 rfl (Wa (.extract (v:= .agg (jT (⟨9,1,0,50,30⟩:Seat)).toArray) rfl rfl) rfl (Wa (.extract (v:= .bool true) rfl rfl) rfl (W.ef rfl rfl rfl (Ef.jR z70 fun aU bJ aV (bK:jL bJ aU 70 (jT jM).toArray) aW=>(W.kP rfl rfl ?_)))))
 refine Ef.storeAll rQ (by rfl) rfl rfl bK (by simp only[List.size_toArray,jQ.len]) (jQ.one (⟨9,1,0,50,30⟩:Seat)) ?_
 intro bL ab aX
 have ab:jL bL aU 70 (jT (⟨9,1,0,50,30⟩:Seat)).toArray:=ab
 refine Wn 1 rfl (Nx (Sr (Wn 14 rfl (Wg (Any.rd (.jE lZ rfl) _) rfl (Wg (.mV [.int .i64 ((⟨9,1,0,50,30⟩:Seat).h0),.int .i64 ((⟨9,1,0,50,30⟩:Seat).h1)] vY rfl (by decide) rfl ab rfl) rfl (Wg (Any.rd (.mZ (cells:=(lW (⟨50,30⟩:lv)).toArray) underlying52 kz z52 rfl rfl) _) rfl (Wg (Any.rd (.dec (.eqA XK rfl rfl (Gx (d:=9998) (⟨(⟨9,1,0,50,30⟩:Seat).h0,(⟨9,1,0,50,30⟩:Seat).h1⟩:lv) (⟨50,30⟩:lv))) (show _=true from by decide)) _) rfl (Wn 3 rfl ?_))))))))
 have aY:=((Z.le (aa.trans aW)).ch aX (fun q hqq hF=>by cases hqq;have:=Z.lt hF;have:=aa.size;have:=aV;omega))
 refine W.mY rfl rfl rfl rfl rfl rfl (Ef.call aaJ rfl rfl (by have h:=Oh (s:=s20) aY;rw[abr]at h;exact h) ?_)
 rintro _ cE ⟨cF,cG,rfl,cH,aZ⟩
 refine⟨_,rfl,?_⟩
 refine Wg (.len underlying94 rfl) rfl (Wg (Any.rd (.dec (.eql rfl rfl) (show _=true from by first|decide|rfl)) _) rfl ?_)
 refine Wn 3 rfl ?_
 have a0:=(aY.le aZ)
 refine W.mY rfl rfl rfl rfl rfl rfl (Ef.call aaK rfl rfl (by have h:=Og (s:=s20) a0;rw[abt]at h;exact h) ?_)
 rintro _ cI ⟨rfl,a1⟩
 refine⟨_,rfl,?_⟩
 refine Wn 1 rfl ?_
 have a2:=(a0.le a1)
 refine W.mY rfl rfl rfl rfl rfl rfl (Ef.call VH rfl rfl (by have h:=EW (s:=s20) a2;rw[Zd]at h;exact h) ?_)
 rintro _ cJ ⟨rfl,a3⟩
 refine⟨_,rfl,?_⟩
 refine Wg (Any.rd (.add rfl rfl (by omega)) _) rfl (Wg (Any.rd (.dec (.eql rfl rfl) (show _=true from by decide)) _) rfl (Wn 3 rfl (W.mY rfl rfl rfl rfl rfl rfl (Ef.call VH rfl rfl (by have h:=EW (s:=s20) (a2.le a3);rw[Zd]at h;exact h) ?_))))
 rintro _ cK ⟨rfl,bM⟩
 refine⟨_,rfl,?_⟩
 refine Wg (Any.rd (.dec (.eql rfl rfl) (show _=true from by first|decide|rfl)) _) rfl ?_
 refine Wn 2 rfl (Nx (Rt (E.jI rfl rfl ?_)))
 exact⟨rfl,((((((aT.trans aW).tb aX aT aV).trans aZ).trans a1).trans a3).trans bM)⟩
end Go.Proofs.YtcaehidaejhdfaaGreat

namespace Go.Proofs.YtcaehidaejhdfaaGreat
open Tryz
open Go Go.Sx Go.Num Go.rZ Go.Lsp Go.Fv
set_option maxRecDepth 20000
structure IC where
  am:Int
  op:Int
  p0:Nat
  p1:Nat
  p2:Nat
  p3:Nat
  p4:Nat
  p5:Nat
  p6:Nat
  p7:Nat
  p8:Nat
  p9:Nat
def tX (c:IC):List Value:=List.replicate 32 (.int .u8 0)++[.int .i64 0,.int .i64 c.am,.int .u64 ((c.p0:Nat):Int),.int .u64 ((c.p1:Nat):Int),.int .u64 ((c.p2:Nat):Int),.int .u64 ((c.p3:Nat):Int),.int .u64 ((c.p4:Nat):Int),.int .u64 ((c.p5:Nat):Int),.int .u64 ((c.p6:Nat):Int),.int .u64 ((c.p7:Nat):Int),.int .u64 ((c.p8:Nat):Int),.int .u64 ((c.p9:Nat):Int),.int .i64 100,.int .i64 200,.int .i64 5,.int .i64 16,.int .i64 1,.int .i64 1125899906842624,.int .i64 100,.int .i64 200,.int .i64 6,.int .i64 16,.int .i64 1,.int .i64 1125899906842624,.int .i64 c.op]
def oV (p:Nat):Prop:=right p=true/\p≠1/\p<18446744073709551616
structure Gy (c:IC):Prop where
  am:400<=c.am/\c.am<=1125899906842624
  op:0<=c.op/\c.op<=1
  pts:oV c.p0/\oV c.p1/\oV c.p2/\oV c.p3/\oV c.p4/\oV c.p5/\oV c.p6/\oV c.p7/\oV c.p8/\oV c.p9
def K6 (pr:Int->Bool)(xs:List Int):Int:=if xs.any pr then(xs.findIdx pr:Int)else-1
theorem TV {pr:Int->Bool}{xs:List Int}{k:Nat}(hk:k<xs.length)(hb:∀j,j<k->¬pr (xs.getD j 0)=true)(h:pr (xs.getD k 0)=true):K6 pr xs=(k:Int):=by
  have hx:xs.getD k 0=xs[k]:=by simp[List.getD,hk]
  have:xs.findIdx pr=k:=by
    rw[List.findIdx_eq hk]
    exact⟨by rw[<-hx];exact h,fun j hj=>by have:=hb j hj;simpa[List.getD,show j<xs.length by omega]using this⟩
  rw[K6,if_pos (by rw[List.any_eq_true];exact⟨xs[k],List.getElem_mem hk,by rw[<-hx];exact h⟩),this]
theorem TW {pr:Int->Bool}{xs:List Int}{k:Nat}(hk:xs.length<=k)(hb:∀j,j<k->j<xs.length->¬pr (xs.getD j 0)=true): -1=K6 pr xs:=by
  rw[K6,if_neg]
  rw[List.any_eq_true]
  rintro⟨y,hy,hp⟩
  obtain⟨j,hj,rfl⟩:=List.mem_iff_getElem.1 hy
  exact hb j (by omega) hj (by simpa[List.getD,hj]using hp)
theorem QY (pr:Int->Bool)(xs:List Int):decide (K6 pr xs≥0)=xs.any pr:=by
  unfold K6;split
  · rename_i h;rw[h];exact decide_eq_true (by omega)
  · rename_i h;rw[Bool.not_eq_true]at h;rw[h];rfl
theorem TY (lo hi:Int)(xs:List Int):(!xs.any fun n=> !l8 n lo hi)=xs.all fun n=>l8 n lo hi:=by
  rw[List.all_eq_not_any_not]
def K7 (pr:Nat->Bool)(xs:List Nat):Int:=if xs.any pr then(xs.findIdx pr:Int)else-1
theorem Oi {pr:Nat->Bool}{xs:List Nat}{k:Nat}(hk:xs.length<=k)(hb:∀j,j<k->¬pr (xs.getD j 0)=true):xs.any pr=false:=by
  rw[Bool.eq_false_iff]
  intro h
  rw[List.any_eq_true]at h
  obtain⟨y,hy,hp⟩:=h
  obtain⟨j,hj,rfl⟩:=List.mem_iff_getElem.1 hy
  exact hb j (by omega) (by simpa[List.getD,hj]using hp)
theorem Bo {α:Type}{l:List α}{z:α}{k:Nat}(h:k<l.length):l.getD k z∈l:=by
  have:l.getD k z=l[k]:=by simp[List.getD,h]
  rw[this];exact List.getElem_mem h
theorem MB {rt:Int}{k:Nat}(hr:0<=rt/\rt<=1000)(hk:k<=16):0<=rt*(68+8*(k:Int))/\rt*(68+8*(k:Int))<=196000:=by
  have b:rt*(68+8*(k:Int))<=1000*196:=Int.mul_le_mul hr.2 (by omega) (by omega) (by omega)
  exact⟨Int.mul_nonneg hr.1 (by omega),by omega⟩
theorem MC {n lo hi:Int}(h:lo<=n/\n<=hi):l8 n lo hi=true:=by unfold l8;exact decide_eq_true h
theorem JO (n lo hi:Int){g1 g2:Nat}(w:World)(hg1:jL w g1 3 #[.int .i64 lo])(hg2:jL w g2 3 #[.int .i64 hi]):Calls prog 109 #[.int .i64 n,.pointer (some ⟨g1,0,none⟩),.pointer (some ⟨g2,0,none⟩)] w fun r w'=>r= .returned (.bool (!l8 n lo hi))/\Le w w':=by
 refine enter func109 rfl rfl ?_
 have b:=Le.refl w
 refine Sr (Wn 1 rfl (Nx (Sr (Wn 1 rfl (Wr (.jF (v:= .int .i64 lo) j5 rfl (hg1.le b) rfl) rfl (Wn 1 rfl ?_))))))
 by_cases c:n<lo
 ·refine Dt c rfl rfl (Wn 5 rfl (Nx (Rt (E.jI rfl rfl ?_))))
  exact⟨rB (by rw[Bool.eq_iff_iff];simp[l8];omega),b⟩
 refine Df c rfl rfl (Wn 1 rfl (Wg (.jF (v:= .int .i64 hi) j5 rfl (hg2.le b) rfl) rfl (Wn 3 rfl (Nx (Rt (E.jI rfl rfl ?_))))))
 exact⟨rB (by rw[Bool.eq_iff_iff];simp[l8];omega),b⟩

theorem K8 {A:Option Addr}{n c:Nat}{xs:List Int}{F:Nat}{qR:Array Value}(pr:Int->Bool)(hgo:jV prog F)(w:World)(hV:Vec w iv 1 A n xs)(hn:n<=1000000)(hf:∀(i:Int) (w1:World),Le w w1->Calls prog F (#[.int .i64 i]++qR) w1 fun r w2=>r= .returned (.bool (pr i))/\Le w1 w2):Calls prog 93 #[.slice A n c,.func (.func F) #[] qR] w fun r w'=>r= .returned (.int .i64 (K6 pr xs))/\Le w w':=by
 have hl:=hV.1
 refine enter func93 rfl rfl (Sr (Wn 1 rfl (Nx (Sq (Sr (Wn 1 rfl (Wr (.len underlying67 rfl) rfl (Wn 1 rfl (Nx (WC.block (WC.loop (ι:=Nat) (fun k=>[(0,.slice A n c),(1,.func (.func F) #[] qR),(7,.int .i64 ((n:Nat):Int)),(8,.int .i64 ((k:Nat):Int))]) (fun k e=>(k<=n)/\(∀j,j<k->¬pr (xs.getD j 0)=true)/\Le w e/\w.heap.size<=e.heap.size) (fun k=>n-k) 0 ?_ ?_ ?_)))))))))))
 ·exact .of rfl
 ·exact⟨Nat.zero_le _,fun j hj=>absurd hj (Nat.not_lt_zero _),(Le.refl w),Nat.le_refl _⟩
 rintro k e ⟨hk,hz,b,o⟩
 refine Sr (Wn 1 rfl (Nx (Sq ?_)))
 by_cases f:((k:Nat):Int)<((n:Nat):Int)
 ·refine Cy rfl (dT f) (Sn (Sq (WC.block (Sr (Wn 2 rfl (Nx (Sr (Wn 3 rfl (Wa (.lL k underlying67 kz rfl rfl (hV.isSome kr (by omega)) rfl (by omega)) rfl (Wr (.pg (v:= .int .i64 (xs.getD k 0)) j5 rfl (hV.le b) kr (lF xs 0 (by omega)) rfl) rfl (W.ef rfl rfl rfl (Ef.D9 hgo rfl rfl rfl (hf _ _ b) ?_))))))))))))
  rintro _ t ⟨rfl,l⟩
  refine⟨_,rfl,?_⟩
  have m:=b.trans l
  refine Nx ?_
  by_cases d:(pr (xs.getD k 0))=true
  ·refine Cy rfl d (Sr (Wn 2 rfl (Nx (Rt (E.j4 (E.jH (E.jH (E.j4 (E.jH (E.jI rfl rfl ?_))))))))))
   exact⟨by rw[TV (by omega) hz d],m⟩
  refine Cn rfl (Bool.eq_false_iff.2 d) (WC.skip (E.jZ (E.jG (WC.region (Wa (.add rfl rfl (by omega)) rfl (Wn 1 rfl (W.nil (E.again (k+1) (.of rfl) ?_ ?_))))))))
  ·exact⟨by omega,fun j hj=>by rcases Nat.lt_or_ge j k with h|h;exact hz j h;rw[show j=k by omega];exact d,m,by have:=o;have:=l.size;omega⟩
  first|omega|(simp only[];omega)
 refine Cn rfl (dF f) (WC.exit (E.jJ (E.jJ (E.ko (E.jG (Sr (Wn 1 rfl (Nx (Rt (E.jI rfl rfl ?_))))))))))
 exact⟨by rw[TW (k:=k) (by omega) (fun j s _=>hz j s)],b⟩

theorem Ig {A:Option Addr}{n c:Nat}{xs:List Int}{F:Nat}{qR:Array Value}(pr:Int->Bool)(hgo:jV prog F)(w:World)(hV:Vec w iv 1 A n xs)(hn:n<=1000000)(hf:∀(i:Int) (w1:World),Le w w1->Calls prog F (#[.int .i64 i]++qR) w1 fun r w2=>r= .returned (.bool (pr i))/\Le w1 w2):Calls prog 47 #[.slice A n c,.func (.func F) #[] qR] w fun r w'=>r= .returned (.bool (xs.any pr))/\Le w w':=by
 have hl:=hV.1
 refine enter func47 rfl rfl ?_
 have b:=Le.refl w
 refine Sr (Wn 1 rfl (Nx (Sr (Wn 2 rfl (W.cl Yu rfl rfl (K8 pr hgo w (hV.le b) hn hf) ?_)))))
 rintro _ f ⟨rfl,d⟩
 have e:=b.trans d
 refine Wn 2 rfl (Nx (Rt (E.jI rfl rfl ?_)))
 exact⟨by rw[<-QY],e⟩

theorem EY (lo hi:Int){A:Option Addr}{n c:Nat}{xs:List Int}(w:World)(hV:Vec w iv 1 A n xs)(hn:n<=1000000):Calls prog 67 #[.int .i64 lo,.int .i64 hi,.slice A n c] w fun r w'=>r= .returned (.bool (xs.all fun n=>l8 n lo hi))/\Le w w':=by
 have hl:=hV.1
 refine enter func67 rfl rfl (Sr (W.ef rfl rfl rfl (Ef.box rfl fun f i u (j:jL i f 3 #[.int .i64 (lo)]) k=>(W.ef rfl rfl rfl (Ef.box rfl fun l b v (m:jL b l 3 #[.int .i64 (hi)]) d=>?_)))))
 have e:=((Le.refl w).trans k).trans d
 refine Wn 1 rfl (Nx (Sr (Wn 1 rfl (Wa (.makeFunc rfl) rfl (W.cl Yh rfl rfl (Ig (fun n=> !l8 n lo hi) Yy b (hV.le e) (by omega) (fun n o hl=>JO n lo hi o ((j.le d).le hl) (m.le hl))) ?_)))))
 rintro _ x ⟨rfl,s⟩
 have t:=e.trans s
 refine Wn 2 rfl (Nx (Rt (E.jI rfl rfl ?_)))
 exact⟨by rw[<-TY],t⟩

theorem Bp (lo hi:Int){A:Option Addr}{c:Nat}{a:Int}(w:World)(hV:Vec w iv 1 A 1 [a]):Calls prog 67 #[.int .i64 lo,.int .i64 hi,.slice A 1 c] w fun r w'=>r= .returned (.bool (l8 a lo hi))/\Le w w':=by
  have:=EY lo hi (c:=c) w hV (by decide)
  simpa using this
theorem Ih (lo hi:Int){A:Option Addr}{c:Nat}{a b:Int}(w:World)(hV:Vec w iv 1 A 2 [a,b]):Calls prog 67 #[.int .i64 lo,.int .i64 hi,.slice A 2 c] w fun r w'=>r= .returned (.bool (l8 a lo hi&&l8 b lo hi))/\Le w w':=by
  have:=EY lo hi (c:=c) w hV (by decide)
  simpa using this

theorem Cv (n lo hi:Int)(w:World):Calls prog 106 #[.int .i64 n,.int .i64 lo,.int .i64 (hi)] w fun r w'=>r= .returned (.bool (l8 n lo hi))/\Le w w':=by
 refine enter func106 rfl rfl ?_
 have c:=Le.refl w
 refine Sr (Wn 1 rfl (Nx (Sr (Wn 3 rfl ?_))))
 by_cases b:lo<=n
 ·refine Dt b rfl rfl (Wn 5 rfl (Nx (Rt (E.jI rfl rfl ?_))))
  exact⟨(by first|rfl|(simp[l8,b];done)|(simp[l8,b];omega)|(simp[l8,b];split<;>first|(exfalso;omega)|(simp;done)|(simp;omega))),c⟩
 refine Df b rfl rfl (Wn 5 rfl (Nx (Rt (E.jI rfl rfl ?_))))
 exact⟨(by first|rfl|(simp[l8,b];done)|(simp[l8,b];omega)|(simp[l8,b];split<;>first|(exfalso;omega)|(simp;done)|(simp;omega))),c⟩

theorem Gz (d r de co le mo:Int)(h:(0<=d/\d<=65536)/\(d<=r/\r<=1125899906842624)/\(1<=de/\de<=4096)/\(0<=co/\co<=16)/\(1<=le/\le<=1125899906842624)/\0<=mo/\mo<=1125899906842624)(w:World):Calls prog 65 #[.agg #[.int .i64 d,.int .i64 r,.int .i64 de,.int .i64 co,.int .i64 le,.int .i64 (mo)]] w fun r w'=>r= .returned (.bool true)/\Le w w':=by
 refine enter func65 rfl rfl (Sr (W.ef rfl rfl rfl (Ef.mH rfl fun z c J (e:jL c z 44 #[.int .i64 d,.int .i64 r,.int .i64 de,.int .i64 co,.int .i64 le,.int .i64 (mo)]) A=>(Wn 1 rfl (Nx (Sr (Wn 1 rfl (Nx (Sr (Wn 1 rfl (Wa (.jE HZ rfl) rfl (Wr (.jF (v:= .int .i64 d) j5 rfl e rfl) rfl ?_))))))))))))
 refine W.cl Gl rfl rfl (Cv d 0 65536 c) ?_
 rintro _ B ⟨rfl,f⟩
 by_cases i:(l8 d 0 65536)=true
 ·refine Wa (.dec (.move rfl) i) rfl (Wn 1 rfl (Wg (Any.rd (.jE Qq rfl) _) rfl ?_))
  have j:=(e.le f)
  refine Wg (.jF (v:= .int .i64 de) j5 rfl j rfl) rfl (W.mY rfl rfl rfl rfl rfl rfl (Ef.call Gl rfl rfl (Cv de 1 4096 B) ?_))
  rintro _ C ⟨rfl,k⟩
  refine⟨_,rfl,?_⟩
  refine Wn 1 rfl ?_
  by_cases l:(l8 de 1 4096)=true
  ·refine Wa (.dec (.move rfl) l) rfl (Wn 1 rfl (Wg (Any.rd (.jE xW rfl) _) rfl ?_))
   have m:=(j.le k)
   refine Wg (.jF (v:= .int .i64 co) j5 rfl m rfl) rfl (W.mY rfl rfl rfl rfl rfl rfl (Ef.call Gl rfl rfl (Cv co 0 16 C) ?_))
   rintro _ D ⟨rfl,n⟩
   refine⟨_,rfl,?_⟩
   refine Wn 2 rfl (Nx (Sr (Wn 1 rfl ?_)))
   by_cases o:(l8 co 0 16)=true
   ·refine Wa (.dec (.move rfl) o) rfl (Wn 1 rfl (Wg (Any.rd (.jE wX rfl) _) rfl ?_))
    have b:=(m.le n)
    refine Wg (.jF (v:= .int .i64 r) j5 rfl b rfl) rfl (Wg (Any.rd (.jE HZ rfl) _) rfl (Wg (.jF (v:= .int .i64 d) j5 rfl b rfl) rfl (W.mY rfl rfl rfl rfl rfl rfl (Ef.call Gl rfl rfl (Cv r d 1125899906842624 D) ?_))))
    rintro _ F ⟨rfl,s⟩
    refine⟨_,rfl,?_⟩
    refine Wn 1 rfl ?_
    by_cases t:(l8 r d 1125899906842624)=true
    ·refine Wa (.dec (.move rfl) t) rfl (Wn 1 rfl (Wg (Any.rd (.jE Qr rfl) _) rfl ?_))
     have u:=(b.le s)
     refine Wg (.jF (v:= .int .i64 le) j5 rfl u rfl) rfl (W.mY rfl rfl rfl rfl rfl rfl (Ef.call Gl rfl rfl (Cv le 1 1125899906842624 F) ?_))
     rintro _ H ⟨rfl,x⟩
     refine⟨_,rfl,?_⟩
     refine Wn 1 rfl ?_
     by_cases y:(l8 le 1 1125899906842624)=true
     ·refine Wa (.dec (.move rfl) y) rfl (Wn 1 rfl (Wg (Any.rd (.jE xX rfl) _) rfl (Wg (.jF (v:= .int .i64 mo) j5 rfl (u.le x) rfl) rfl (W.mY rfl rfl rfl rfl rfl rfl (Ef.call Gl rfl rfl (Cv mo 0 1125899906842624 H) ?_)))))
      rintro _ K ⟨rfl,I⟩
      refine⟨_,rfl,?_⟩
      refine Wn 2 rfl (Nx (Rt (E.jI rfl rfl ?_)))
      exact⟨rB (by simp[l8];omega),((((((((Le.refl w).trans A).trans f).trans k).trans n).trans s).trans x).trans I)⟩
     refine Wa (.dec (.move rfl) (Bool.eq_false_iff.2 y)) rfl (Wn 6 rfl (Nx (Rt (E.jI rfl rfl ?_))))
     exfalso;simp only[l8,decide_eq_true_eq]at*;omega
    refine Wa (.dec (.move rfl) (Bool.eq_false_iff.2 t)) rfl (Wn 12 rfl (Nx (Rt (E.jI rfl rfl ?_))))
    exfalso;simp only[l8,decide_eq_true_eq]at*;omega
   refine Wa (.dec (.move rfl) (Bool.eq_false_iff.2 o)) rfl (Wn 20 rfl (Nx (Rt (E.jI rfl rfl ?_))))
   exfalso;simp only[l8,decide_eq_true_eq]at*;omega
  refine Wa (.dec (.move rfl) (Bool.eq_false_iff.2 l)) rfl (Wn 6 rfl (Nx (Sr (Wn 22 rfl (Nx (Rt (E.jI rfl rfl ?_)))))))
  exfalso;simp only[l8,decide_eq_true_eq]at*;omega
 refine Wa (.dec (.move rfl) (Bool.eq_false_iff.2 i)) rfl (Wn 12 rfl (Nx (Sr (Wn 22 rfl (Nx (Rt (E.jI rfl rfl ?_)))))))
 exfalso;simp only[l8,decide_eq_true_eq]at*;omega

theorem Oj (q:Nat)(hq:oV q)(w:World):Calls prog 107 #[.int .u64 ((q:Nat):Int)] w fun r w'=>r= .returned (.bool false)/\Le w w':=by
 have e:=hq.2.2
 have c:=hq.1
 have f:=hq.2.1
 refine enter func107 rfl rfl (Sr (Wn 1 rfl (Nx (Sr (Wn 2 rfl ?_)))))
 by_cases b:((q:Nat):Int)=1
 ·refine Dt b rfl rfl (Wn 5 rfl (Nx (Rt (E.jI rfl rfl ?_))))
  exfalso;omega
 refine Df b rfl rfl (Wn 1 rfl (W.mY rfl rfl rfl rfl rfl rfl (Ef.call Tt rfl rfl (yG q (by first|assumption|omega) w) ?_)))
 rintro _ i ⟨rfl,d⟩
 refine⟨_,rfl,?_⟩
 refine Wn 3 rfl (Nx (Rt (E.jI rfl rfl ?_)))
 exact⟨rB (by rw[c];rfl),((Le.refl w).trans d)⟩

theorem K9 {A:Option Addr}{n c:Nat}{xs:List Nat}{F:Nat}{qR:Array Value}(hgo:jV prog F)(w:World)(hV:Vec w uN 1 A n xs)(hn:n<=1000000)(hz:∀q∈xs,oV q)(hf:∀(q:Nat) (w1:World),oV q->Le w w1->Calls prog F (#[.int .u64 ((q:Nat):Int)]++qR) w1 fun r w2=>r= .returned (.bool false)/\Le w1 w2):Calls prog 137 #[.slice A n c,.func (.func F) #[] qR] w fun r w'=>r= .returned (.int .i64 (-1))/\Le w w':=by
 have hl:=hV.1
 refine enter func137 rfl rfl (Sr (Wn 1 rfl (Nx (Sq (Sr (Wn 1 rfl (Wr (.len underlying112 rfl) rfl (Wn 1 rfl (Nx (WC.block (WC.loop (ι:=Nat) (fun k=>[(0,.slice A n c),(1,.func (.func F) #[] qR),(7,.int .i64 ((n:Nat):Int)),(8,.int .i64 ((k:Nat):Int))]) (fun k d=>(k<=n)/\Le w d/\w.heap.size<=d.heap.size) (fun k=>n-k) 0 ?_ ?_ ?_)))))))))))
 ·exact .of rfl
 ·exact⟨Nat.zero_le _,(Le.refl w),Nat.le_refl _⟩
 rintro k d ⟨hk,b,i⟩
 refine Sr (Wn 1 rfl (Nx (Sq ?_)))
 by_cases e:((k:Nat):Int)<((n:Nat):Int)
 ·refine Cy rfl (dT e) (Sn (Sq (WC.block (Sr (Wn 2 rfl (Nx (Sr (Wn 3 rfl (Wa (.lL k underlying112 sZ rfl rfl (hV.isSome kU (by omega)) rfl (by omega)) rfl (Wr (.pg (v:= .int .u64 (((xs.getD k 0):Nat):Int)) qj rfl (hV.le b) kU (lF xs 0 (by omega)) rfl) rfl (W.ef rfl rfl rfl (Ef.D9 hgo rfl rfl rfl (hf _ _ (hz _ (Bo (z:=0) (by omega))) b) ?_))))))))))))
  rintro _ j ⟨rfl,f⟩
  refine⟨_,rfl,?_⟩
  refine Nx (WC.kF rfl (WC.skip (E.jZ (E.jG (WC.region (Wa (.add rfl rfl (by omega)) rfl (Wn 1 rfl (W.nil (E.again (k+1) (.of rfl) ?_ ?_)))))))))
  ·exact⟨by omega,(b.trans f),by have:=i;have:=f.size;omega⟩
  first|omega|(simp only[];omega)
 refine Cn rfl (dF e) (WC.exit (E.jJ (E.jJ (E.ko (E.jG (Sr (Wn 1 rfl (Nx (Rt (E.jI rfl rfl ?_))))))))))
 exact⟨rfl,b⟩

theorem FL {A:Option Addr}{n c:Nat}{xs:List Nat}{F:Nat}{qR:Array Value}(hgo:jV prog F)(w:World)(hV:Vec w uN 1 A n xs)(hn:n<=1000000)(hz:∀q∈xs,oV q)(hf:∀(q:Nat) (w1:World),oV q->Le w w1->Calls prog F (#[.int .u64 ((q:Nat):Int)]++qR) w1 fun r w2=>r= .returned (.bool false)/\Le w1 w2):Calls prog 108 #[.slice A n c,.func (.func F) #[] qR] w fun r w'=>r= .returned (.bool false)/\Le w w':=by
 have hl:=hV.1
 refine enter func108 rfl rfl ?_
 have b:=Le.refl w
 refine Sr (Wn 1 rfl (Nx (Sr (Wn 2 rfl (W.cl UU rfl rfl (K9 hgo w (hV.le b) hn hz hf) ?_)))))
 rintro _ e ⟨rfl,d⟩
 refine Wa (.dec (.geq rfl rfl) (show _=false from by first|decide|rfl)) rfl ?_
 refine Wn 1 rfl (Nx (Rt (E.jI rfl rfl ?_)))
 exact⟨rfl,(b.trans d)⟩

theorem EZ (b0 b1 b2 b3 b4:Nat)(hb:oV b0/\oV b1/\oV b2/\oV b3/\oV b4)(w:World):Calls prog 66 #[.agg #[.int .u64 ((b0:Nat):Int),.int .u64 ((b1:Nat):Int),.int .u64 ((b2:Nat):Int),.int .u64 ((b3:Nat):Int),.int .u64 ((b4:Nat):Int)]] w fun r w'=>r= .returned (.bool true)/\Le w w':=by
 have hall:∀q∈[b0,b1,b2,b3,b4],oV q:=fun q hq=>by simp only[List.mem_cons,List.not_mem_nil,or_false]at hq;rcases hq with rfl|rfl|rfl|rfl|rfl;exact hb.1;exact hb.2.1;exact hb.2.2.1;exact hb.2.2.2.1;exact hb.2.2.2.2
 refine enter func66 rfl rfl (Sr (W.ef rfl rfl rfl (Ef.mH rfl fun i e s (b:jL e i 41 #[.int .u64 ((b0:Nat):Int),.int .u64 ((b1:Nat):Int),.int .u64 ((b2:Nat):Int),.int .u64 ((b3:Nat):Int),.int .u64 ((b4:Nat):Int)]) j=>(Wn 1 rfl (Nx (Sr (Wn 1 rfl (Nx (Sr (Wa (.jE EK rfl) rfl (Wr (.jF (v:= .int .u64 ((b0:Nat):Int)) qj rfl b rfl) rfl ?_)))))))))))
 refine Wa (.jE KN rfl) rfl (Wr (.jF (v:= .int .u64 ((b1:Nat):Int)) qj rfl b rfl) rfl (Wa (.jE KO rfl) rfl (Wr (.jF (v:= .int .u64 ((b2:Nat):Int)) qj rfl b rfl) rfl (Wa (.jE KP rfl) rfl (Wr (.jF (v:= .int .u64 ((b3:Nat):Int)) qj rfl b rfl) rfl ?_)))))
 refine Wa (.jE KQ rfl) rfl (Wr (.jF (v:= .int .u64 ((b4:Nat):Int)) qj rfl b rfl) rfl (W.ef rfl rfl rfl (Ef.jX (len:=5) [_,_,_,_,_] underlying112 Hu rfl (by simp[Value.cells]) rfl (by decide) (by decide) ?_)))
 intro f c k d l
 have d:jL c f 39 (([b0,b1,b2,b3,b4]).map uN).flatten.toArray:=d
 have m:jO c e.heap.size 39 uN 1 (some ⟨f,0,none⟩) 5 5 ([b0,b1,b2,b3,b4]):=d.pQ k kU rfl rfl (by decide)
 refine Wn 1 rfl (W.cl UO rfl rfl (FL Yx c m.vec (by decide) hall (fun q n hq _=>Oj q hq n)) ?_)
 rintro _ t ⟨rfl,o⟩
 refine Wn 2 rfl (Nx (Rt (E.jI rfl rfl ?_)))
 exact⟨rfl,((((Le.refl w).trans j).trans l).trans o)⟩

theorem La (k:Nat)(hk:k<=16)(w:World):Calls prog 139 #[.int .i64 ((k:Nat):Int)] w fun r w'=>r= .returned (.int .i64 (68+8*((k:Nat):Int)))/\Le w w':=by
 refine enter func139 rfl rfl (Sr (Wn 1 rfl (Nx (Sq (Sr (Wn 2 rfl ?_))))))
 by_cases b:((k:Nat):Int)<0
 ·refine Dt b rfl rfl (Wn 3 rfl (Nx (WC.jS rfl (Sr (Wn 1 rfl (Nx (Rt (E.jH (E.jI rfl rfl ?_)))))))))
  exfalso;omega
 refine Df b rfl rfl (Wn 3 rfl (Nx ?_))
 by_cases c:16<((k:Nat):Int)
 ·refine Cy rfl (dT c) (Sr (Wn 1 rfl (Nx (Rt (E.jH (E.jI rfl rfl ?_))))))
  exfalso;omega
 refine Cn rfl (dF c) (Sn (Sr (Wn 1 rfl (Wa (.mul rfl rfl (by omega)) rfl (Wa (.add rfl rfl (by omega)) rfl (Wn 1 rfl (Nx (Rt (E.jI rfl rfl ?_)))))))))
 exact⟨congrArg (fun i=>Ending.returned (Value.int .i64 i)) (by omega),(Le.refl w)⟩

theorem TZ (rt:Int)(k:Nat)(hr:0<=rt/\rt<=1000)(hk:k<=16)(w:World):Calls prog 112 #[.int .i64 rt,.int .i64 ((k:Nat):Int)] w fun r w'=>r= .returned (.int .i64 (rt*(68+8*((k:Nat):Int))))/\Le w w':=by
 have hmul:=MB hr hk
 refine enter func112 rfl rfl (Sr (Wn 1 rfl (Nx (Sq (Sr (Wn 2 rfl ?_))))))
 by_cases b:rt<0
 ·refine Dt b rfl rfl (Wn 3 rfl (Nx (WC.jS rfl (Sr (Wn 1 rfl (Nx (Rt (E.jH (E.jI rfl rfl ?_)))))))))
  exfalso;omega
 refine Df b rfl rfl (Wn 3 rfl (Nx ?_))
 by_cases c:1000<rt
 ·refine Cy rfl (dT c) (Sr (Wn 1 rfl (Nx (Rt (E.jH (E.jI rfl rfl ?_))))))
  exfalso;omega
 refine Cn rfl (dF c) (Sn (Sr (Wn 2 rfl (W.cl YJ rfl rfl (La k (by omega) w) ?_))))
 rintro _ e ⟨rfl,d⟩
 refine Wa (.mul rfl rfl (by omega)) rfl (Wn 1 rfl (Nx (Rt (E.jI rfl rfl ?_))))
 exact⟨rfl,((Le.refl w).trans d)⟩
end Go.Proofs.YtcaehidaejhdfaaGreat

namespace Go.Proofs.YtcaehidaejhdfaaGreat
open Tryz
open Go Go.Sx Go.wI Go.Num Go.Ac Go.rZ Go.Lsp Go.Fv
set_option maxRecDepth 20000
abbrev Byte:=BitVec 8
def qX (h:List Byte):List Value:=(List.range 32).map fun j=>lD (h.getD j 0)
def noH:List Byte:=List.replicate 32 0
theorem sD {h:List Byte}(hl:h.length=32):qX h=h.map lD:=by
  unfold qX
  apply List.ext_getElem
  · simp[hl]
  · intro i c b
    have:i<h.length:=by simpa using b
    simp[List.getD,this]
theorem yh:oz qX 32:=⟨fun _=>by simp[qX],fun x v hv=>by obtain⟨j,_,rfl⟩:=List.mem_map.1 hv;rfl,by decide⟩
structure Kt where
  f:Nat
  p:Nat
  l:Nat
  c:Nat
  r:Nat
  ch:List Byte
def E5:Kt:=⟨0,0,0,0,0,noH⟩
def wB (k:Kt):List Value:=[.int .u64 ((k.f:Nat):Int),.int .u64 ((k.p:Nat):Int),.int .u64 ((k.l:Nat):Int),.int .u64 ((k.c:Nat):Int),.int .u64 ((k.r:Nat):Int)]++qX k.ch
def rU (k:Kt×Kt):List Value:=wB k.1++wB k.2
structure Bas where
  f:Nat
  p:Nat
  l:Nat
  c:Nat
  r:Nat
def kD:Bas:=⟨0,0,0,0,0⟩
def JP (b:Bas):List Value:=[.int .u64 ((b.f:Nat):Int),.int .u64 ((b.p:Nat):Int),.int .u64 ((b.l:Nat):Int),.int .u64 ((b.c:Nat):Int),.int .u64 ((b.r:Nat):Int)]
theorem Bq (h:List Byte):∀v∈qX h,v.oneCell'=true:=yh.one h
theorem wC:oz wB 37:=⟨fun k=>by simp[wB,qX],fun x v hv=>by
  rcases List.mem_append.1 hv with hv|hv
  · simp at hv;rcases hv with rfl|rfl|rfl|rfl|rfl<;>rfl
  · exact Bq _ v hv,by decide⟩
theorem oZ:oz rU 74:=⟨fun k=>by simp[rU,wC.len],fun x v hv=>(List.mem_append.1 hv).elim (wC.one _ v) (wC.one _ v),by decide⟩
theorem Br:oz JP 5:=⟨fun _=>rfl,fun x v hv=>by simp[JP]at hv;rcases hv with rfl|rfl|rfl|rfl|rfl<;>rfl,by decide⟩
def QZ:List Byte:=[107,105,116]
def nL (seed:List Byte)(n:Nat):List Byte:=tag QZ [seed,[BitVec.ofNat 8 n]]
def jN (seed:List Byte):Kt:=⟨nZ (nL seed 1),nZ (nL seed 2),nZ (nL seed 3),nZ (nL seed 4),nZ (nL seed 5),nL seed 6⟩
def kg (k:Kt):Bas:=⟨base k.f,base k.p,base k.l,base k.c,base k.r⟩
theorem wD {k:Nat}(h:k%q≠0):oV (base k):=⟨DK k,IM h,R7 k⟩
theorem uH (h:List Byte)(hl:h.length=32)(w:World):Calls prog 52 #[.agg (qX h).toArray] w fun e w'=>e= .returned (.int .u64 ((nZ h:Nat):Int))/\Le w w':=by
  rw[sD hl]
  exact QO h hl w

theorem pX (n lo hi:Int)(w:World):Calls prog 100 #[.int .i64 n,.int .i64 lo,.int .i64 (hi)] w fun r w'=>r= .returned (.bool (l8 n lo hi))/\Le w w':=by
 refine enter func100 rfl rfl ?_
 have c:=Le.refl w
 refine Sr (Wn 1 rfl (Nx (Sr (Wn 3 rfl ?_))))
 by_cases b:lo<=n
 ·refine Dt b rfl rfl (Wn 5 rfl (Nx (Rt (E.jI rfl rfl ?_))))
  exact⟨(by first|rfl|(simp[l8,b];done)|(simp[l8,b];omega)|(simp[l8,b];split<;>first|(exfalso;omega)|(simp;done)|(simp;omega))),c⟩
 refine Df b rfl rfl (Wn 5 rfl (Nx (Rt (E.jI rfl rfl ?_))))
 exact⟨(by first|rfl|(simp[l8,b];done)|(simp[l8,b];omega)|(simp[l8,b];split<;>first|(exfalso;omega)|(simp;done)|(simp;omega))),c⟩

theorem De (d r de co le mo:Int)(h:(0<=d/\d<=65536)/\(d<=r/\r<=1125899906842624)/\(1<=de/\de<=4096)/\(0<=co/\co<=16)/\(1<=le/\le<=1125899906842624)/\0<=mo/\mo<=1125899906842624)(w:World):Calls prog 101 #[.agg #[.int .i64 d,.int .i64 r,.int .i64 de,.int .i64 co,.int .i64 le,.int .i64 (mo)]] w fun r w'=>r= .returned (.bool true)/\Le w w':=by
 refine enter func101 rfl rfl (Sr (W.ef rfl rfl rfl (Ef.mH rfl fun z c J (e:jL c z 44 #[.int .i64 d,.int .i64 r,.int .i64 de,.int .i64 co,.int .i64 le,.int .i64 (mo)]) A=>(Wn 1 rfl (Nx (Sr (Wa (.jE HZ rfl) rfl (Wr (.jF (v:= .int .i64 d) j5 rfl e rfl) rfl ?_))))))))
 refine W.cl xV rfl rfl (pX d 0 65536 c) ?_
 rintro _ B ⟨rfl,f⟩
 by_cases i:(l8 d 0 65536)=true
 ·refine Wa (.dec (.move rfl) i) rfl (Wg (Any.rd (.jE wX rfl) _) rfl ?_)
  have b:=(e.le f)
  refine Wg (.jF (v:= .int .i64 r) j5 rfl b rfl) rfl (Wg (Any.rd (.jE HZ rfl) _) rfl (Wg (.jF (v:= .int .i64 d) j5 rfl b rfl) rfl (W.mY rfl rfl rfl rfl rfl rfl (Ef.call xV rfl rfl (pX r d 1125899906842624 B) ?_))))
  rintro _ C ⟨rfl,j⟩
  refine⟨_,rfl,?_⟩
  refine Wn 1 rfl ?_
  by_cases k:(l8 r d 1125899906842624)=true
  ·refine Wa (.dec (.move rfl) k) rfl (Wg (Any.rd (.jE Qq rfl) _) rfl ?_)
   have l:=(b.le j)
   refine Wg (.jF (v:= .int .i64 de) j5 rfl l rfl) rfl (W.mY rfl rfl rfl rfl rfl rfl (Ef.call xV rfl rfl (pX de 1 4096 C) ?_))
   rintro _ D ⟨rfl,m⟩
   refine⟨_,rfl,?_⟩
   refine Wn 2 rfl (Nx (Sr (Wn 1 rfl ?_)))
   by_cases n:(l8 de 1 4096)=true
   ·refine Wa (.dec (.move rfl) n) rfl (Wg (Any.rd (.jE xW rfl) _) rfl ?_)
    have o:=(l.le m)
    refine Wg (.jF (v:= .int .i64 co) j5 rfl o rfl) rfl (W.mY rfl rfl rfl rfl rfl rfl (Ef.call xV rfl rfl (pX co 0 16 D) ?_))
    rintro _ F ⟨rfl,s⟩
    refine⟨_,rfl,?_⟩
    refine Wn 1 rfl ?_
    by_cases t:(l8 co 0 16)=true
    ·refine Wa (.dec (.move rfl) t) rfl (Wg (Any.rd (.jE Qr rfl) _) rfl ?_)
     have u:=(o.le s)
     refine Wg (.jF (v:= .int .i64 le) j5 rfl u rfl) rfl (W.mY rfl rfl rfl rfl rfl rfl (Ef.call xV rfl rfl (pX le 1 1125899906842624 F) ?_))
     rintro _ H ⟨rfl,x⟩
     refine⟨_,rfl,?_⟩
     refine Wn 1 rfl ?_
     by_cases y:(l8 le 1 1125899906842624)=true
     ·refine Wa (.dec (.move rfl) y) rfl (Wg (Any.rd (.jE xX rfl) _) rfl (Wg (.jF (v:= .int .i64 mo) j5 rfl (u.le x) rfl) rfl (W.mY rfl rfl rfl rfl rfl rfl (Ef.call xV rfl rfl (pX mo 0 1125899906842624 H) ?_))))
      rintro _ K ⟨rfl,I⟩
      refine⟨_,rfl,?_⟩
      refine Wn 2 rfl (Nx (Rt (E.jI rfl rfl ?_)))
      exact⟨rB (by simp[l8];omega),((((((((Le.refl w).trans A).trans f).trans j).trans m).trans s).trans x).trans I)⟩
     refine Wa (.dec (.move rfl) (Bool.eq_false_iff.2 y)) rfl (Wn 5 rfl (Nx (Rt (E.jI rfl rfl ?_))))
     exfalso;simp only[l8,decide_eq_true_eq]at*;omega
    refine Wa (.dec (.move rfl) (Bool.eq_false_iff.2 t)) rfl (Wn 10 rfl (Nx (Rt (E.jI rfl rfl ?_))))
    exfalso;simp only[l8,decide_eq_true_eq]at*;omega
   refine Wa (.dec (.move rfl) (Bool.eq_false_iff.2 n)) rfl (Wn 15 rfl (Nx (Rt (E.jI rfl rfl ?_))))
   exfalso;simp only[l8,decide_eq_true_eq]at*;omega
  refine Wa (.dec (.move rfl) (Bool.eq_false_iff.2 k)) rfl (Wn 5 rfl (Nx (Sr (Wn 17 rfl (Nx (Rt (E.jI rfl rfl ?_)))))))
  exfalso;simp only[l8,decide_eq_true_eq]at*;omega
 refine Wa (.dec (.move rfl) (Bool.eq_false_iff.2 i)) rfl (Wn 12 rfl (Nx (Sr (Wn 17 rfl (Nx (Rt (E.jI rfl rfl ?_)))))))
 exfalso;simp only[l8,decide_eq_true_eq]at*;omega

theorem o7 (p:Nat)(hp:oV p)(w:World):Calls prog 102 #[.int .u64 ((p:Nat):Int)] w fun r w'=>r= .returned (.bool true)/\Le w w':=by
 have c:=hp.1;have e:=hp.2.1;have f:=hp.2.2
 refine enter func102 rfl rfl (Sr (Wn 1 rfl (Nx (Sr (Wn 1 rfl (W.cl UN rfl rfl (EO p (by first|assumption|omega) w) ?_))))))
 rintro _ i ⟨rfl,d⟩
 by_cases b:(right p)=true
 ·refine Wa (.dec (.move rfl) b) rfl (Wn 4 rfl (Nx (Rt (E.jI rfl rfl ?_))))
  exact⟨rB (by simp[c];omega),((Le.refl w).trans d)⟩
 refine Wa (.dec (.move rfl) (Bool.eq_false_iff.2 b)) rfl (Wn 4 rfl (Nx (Rt (E.jI rfl rfl ?_))))
 exfalso;first|omega|simp_all

theorem Ii (k:Nat)(hk:k<=16)(w:World):Calls prog 136 #[.int .i64 ((k:Nat):Int)] w fun r w'=>r= .returned (.int .i64 (68+8*((k:Nat):Int)))/\Le w w':=by
 refine enter func136 rfl rfl (Sr (Wn 1 rfl (Nx (Sq (Sr (Wn 1 rfl (W.cl xV rfl rfl (pX ((k:Nat):Int) 0 16 w) ?_)))))))
 rintro _ d ⟨rfl,c⟩
 refine Wn 1 rfl (Nx ?_)
 by_cases b:(l8 ((k:Nat):Int) 0 16)=true
 ·refine Cn rfl (congrArg not b) (Sn (Sr (Wn 1 rfl (Wa (.add rfl rfl (by omega)) rfl (Wa (.mul rfl rfl (by omega)) rfl (Wa (.add rfl rfl (by omega)) rfl (Wn 1 rfl (Nx (Rt ?_)))))))))
  refine E.jI rfl rfl ?_
  exact⟨congrArg (fun i=>Ending.returned (Value.int .i64 i)) (by omega),((Le.refl w).trans c)⟩
 refine Cy rfl (congrArg not (Bool.eq_false_iff.2 b)) (Sr (Wn 1 rfl (Nx (Rt (E.jH (E.jI rfl rfl ?_))))))
 exfalso;simp only[l8,decide_eq_true_eq]at*;omega

theorem Ol (rt:Int)(k:Nat)(hr:0<=rt/\rt<=1000)(hk:k<=16)(w:World):Calls prog 104 #[.int .i64 rt,.int .i64 ((k:Nat):Int)] w fun r w'=>r= .returned (.int .i64 (rt*(68+8*((k:Nat):Int))))/\Le w w':=by
 have hmul:=MB hr hk
 refine enter func104 rfl rfl (Sr (Wn 1 rfl (Nx (Sq (Sr (Wn 1 rfl (W.cl xV rfl rfl (pX rt 0 1000 w) ?_)))))))
 rintro _ c ⟨rfl,d⟩
 refine Wn 1 rfl (Nx ?_)
 by_cases b:(l8 rt 0 1000)=true
 ·refine Cn rfl (congrArg not b) (Sn (Sr (Wn 2 rfl (W.cl YI rfl rfl (Ii k (by omega) c) ?_))))
  rintro _ f ⟨rfl,e⟩
  refine Wa (.mul rfl rfl (by omega)) rfl (Wn 1 rfl (Nx (Rt (E.jI rfl rfl ?_))))
  exact⟨rfl,(((Le.refl w).trans d).trans e)⟩
 refine Cy rfl (congrArg not (Bool.eq_false_iff.2 b)) (Sr (Wn 1 rfl (Nx (Rt (E.jH (E.jI rfl rfl ?_))))))
 exfalso;simp only[l8,decide_eq_true_eq]at*;omega

theorem Om (ch:IC)(hch:Gy ch)(w:World):Calls prog 55 #[.agg (tX ch).toArray] w fun r w'=>r= .returned (.int .i64 0)/\Le w w':=by
 have ham:=hch.am;have hop:=hch.op
 obtain⟨k0,k1,k2,k3,k4,k5,k6,k7,k8,k9⟩:=hch.pts
 refine enter func55 rfl rfl (Sr (W.ef rfl rfl rfl (Ef.mH rfl fun av D aR (F:jL D av 47 (tX ch).toArray) aw=>(Wn 1 rfl (Nx (Sq (Sr (Wa (.jE qA rfl) rfl (Wr (.jF (v:= .int .i64 ch.am) j5 rfl F rfl) rfl ?_)))))))))
 refine W.cl xV rfl rfl (pX ch.am 1 1125899906842624 D) ?_
 rintro _ ax ⟨rfl,H⟩
 refine Wn 1 rfl ?_
 by_cases I:(l8 ch.am 1 1125899906842624)=true
 ·refine Wa (.dec (.move rfl) (congrArg not I)) rfl (Wg (Any.rd (.jE EL rfl) _) rfl (Wg (Any.rd (.jE Cs rfl) _) rfl ?_))
  have J:=(F.le H)
  refine Wg (.jF (v:= .int .i64 0) j5 rfl J rfl) rfl (W.mY rfl rfl rfl rfl rfl rfl (Ef.call xV rfl rfl (pX 0 0 63 ax) ?_))
  rintro _ ay ⟨rfl,K⟩
  refine⟨_,rfl,?_⟩
  refine Wn 2 rfl ?_
  by_cases L:(l8 0 0 63)=true
  ·refine Wa (.dec (.move rfl) (congrArg not L)) rfl (Wg (Any.rd (.jE vF rfl) _) rfl ?_)
   have N:=(J.le K)
   refine Wg (.jF (v:= .int .i64 ch.op) j5 rfl N rfl) rfl (W.mY rfl rfl rfl rfl rfl rfl (Ef.call xV rfl rfl (pX ch.op 0 1 ay) ?_))
   rintro _ aS ⟨rfl,O⟩
   refine⟨_,rfl,?_⟩
   have P:=((((Le.refl w).trans aw).trans H).trans K).trans O
   refine Wn 2 rfl (Nx ?_)
   by_cases Q:(l8 ch.op 0 1)=true
   ·refine Cn rfl (congrArg not Q) (Sn (Sq (Sr (Wn 1 rfl (Nx (WC.block (WC.rounds 3 (qK.step (Sq (Sr (Wn 1 rfl (Wa (.dec (.lss rfl rfl) (show _=true from by first|decide|rfl)) rfl ?_))))))))))))
    refine Nx (WC.jS rfl (Sn (Sq (WC.block (Sr (Wn 1 rfl (Wa (.jE xY rfl) rfl (Wa (.mP 0 underlying42 Bb rfl rfl rfl (by omega)) rfl ?_))))))))
    have f:=(N.le O)
    refine Wr (.mV [.int .u64 ((ch.p0:Nat):Int),.int .u64 ((ch.p1:Nat):Int),.int .u64 ((ch.p2:Nat):Int),.int .u64 ((ch.p3:Nat):Int),.int .u64 ((ch.p4:Nat):Int)] PX rfl (by decide) rfl f rfl) rfl (W.ef rfl rfl rfl (Ef.jR z41 fun R az aA (aB:jL az R 41 (JP kD).toArray) S=>(W.sA Bb rfl rfl aB ?_)))
    intro T b U
    have b:jL T R 41 #[.int .u64 ((ch.p0:Nat):Int),.int .u64 ((ch.p1:Nat):Int),.int .u64 ((ch.p2:Nat):Int),.int .u64 ((ch.p3:Nat):Int),.int .u64 ((ch.p4:Nat):Int)]:=b
    refine Nx (Sr (Wa (.jE EK rfl) rfl (Wr (.jF (v:= .int .u64 ((ch.p0:Nat):Int)) qj rfl b rfl) rfl (Wa (.jE KN rfl) rfl (Wr (.jF (v:= .int .u64 ((ch.p1:Nat):Int)) qj rfl b rfl) rfl (Wa (.jE KO rfl) rfl ?_))))))
    refine Wr (.jF (v:= .int .u64 ((ch.p2:Nat):Int)) qj rfl b rfl) rfl (Wa (.jE KP rfl) rfl (Wr (.jF (v:= .int .u64 ((ch.p3:Nat):Int)) qj rfl b rfl) rfl (Wa (.jE KQ rfl) rfl (Wr (.jF (v:= .int .u64 ((ch.p4:Nat):Int)) qj rfl b rfl) rfl (W.ef rfl rfl rfl ?_)))))
    refine Ef.jX (len:=5) [_,_,_,_,_] underlying112 Hu rfl (by simp[Value.cells]) rfl (by decide) (by decide) ?_
    intro V i aC j X
    have j:jL i V 39 (([ch.p0,ch.p1,ch.p2,ch.p3,ch.p4]).map uN).flatten.toArray:=j
    have d:jO i T.heap.size 39 uN 1 (some ⟨V,0,none⟩) 5 5 ([ch.p0,ch.p1,ch.p2,ch.p3,ch.p4]):=j.pQ aC kU rfl rfl (by decide)
    refine Wn 1 rfl (Nx (Sq (Sr (Wn 1 rfl (Wa (.jE pV rfl) rfl (Wa (.mP 0 underlying45 rD rfl rfl rfl (by omega)) rfl ?_))))))
    have Y:=(((f.le S).cn U (by have:=f.lt;omega)).le X)
    refine Wr (.mV [.int .i64 100,.int .i64 200,.int .i64 5,.int .i64 16,.int .i64 1,.int .i64 (1125899906842624)] FH rfl (by decide) rfl Y rfl) rfl (W.cl UM rfl rfl (De 100 200 5 16 1 1125899906842624 (by decide) i) ?_)
    rintro _ aD ⟨rfl,k⟩
    refine Wn 1 rfl (Nx (WC.kF rfl (Sn (Sr (Wn 1 rfl (Nx (WC.block (WC.rounds 6 (qK.step (Sq (Sr (Wn 1 rfl (Wa (.dec (.lss rfl rfl) (show _=true from by first|decide|rfl)) rfl ?_)))))))))))))
    refine Nx (WC.jS rfl (Sn (Sq (WC.block (Sr (Wn 2 rfl (Wa (.lL 0 underlying112 sZ rfl rfl (d.vec.isSome kU (by omega)) rfl (by omega)) rfl ?_)))))))
    have Z:=(d.le k)
    refine Wr (.pg (v:= .int .u64 (((([ch.p0,ch.p1,ch.p2,ch.p3,ch.p4]).getD 0 0):Nat):Int)) qj rfl Z.vec kU (lF ([ch.p0,ch.p1,ch.p2,ch.p3,ch.p4]) 0 (by first|omega|(simp only[List.length_cons,List.length_nil];omega))) rfl) rfl ?_
    refine W.cl zf rfl rfl (o7 (([ch.p0,ch.p1,ch.p2,ch.p3,ch.p4]).getD 0 0) (by assumption) aD) ?_
    rintro _ aE ⟨rfl,l⟩
    refine Wn 1 rfl (Nx (WC.kF rfl (WC.skip (E.jZ (E.jG (WC.region (Wn 1 rfl (Wa (.as (.add rfl rfl (by decide)) rfl) rfl (Wn 1 rfl (W.nil (E.round (qK.step (Sq (Sr (Wn 1 rfl ?_)))))))))))))))
    refine Wa (.dec (.lss rfl rfl) (show _=true from by first|decide|rfl)) rfl ?_
    refine Nx (WC.jS rfl (Sn (Sq (WC.block (Sr (Wn 2 rfl (Wa (.lL 1 underlying112 sZ rfl rfl (d.vec.isSome kU (by omega)) rfl (by omega)) rfl ?_)))))))
    have aa:=(Z.le l)
    refine Wr (.pg (v:= .int .u64 (((([ch.p0,ch.p1,ch.p2,ch.p3,ch.p4]).getD 1 0):Nat):Int)) qj rfl aa.vec kU (lF ([ch.p0,ch.p1,ch.p2,ch.p3,ch.p4]) 0 (by first|omega|(simp only[List.length_cons,List.length_nil];omega))) rfl) rfl ?_
    refine W.cl zf rfl rfl (o7 (([ch.p0,ch.p1,ch.p2,ch.p3,ch.p4]).getD 1 0) (by assumption) aE) ?_
    rintro _ aF ⟨rfl,m⟩
    refine Wn 1 rfl (Nx (WC.kF rfl (WC.skip (E.jZ (E.jG (WC.region (Wn 1 rfl (Wa (.as (.add rfl rfl (by decide)) rfl) rfl (Wn 1 rfl (W.nil (E.round (qK.step (Sq (Sr (Wn 1 rfl ?_)))))))))))))))
    refine Wa (.dec (.lss rfl rfl) (show _=true from by first|decide|rfl)) rfl ?_
    refine Nx (WC.jS rfl (Sn (Sq (WC.block (Sr (Wn 2 rfl (Wa (.lL 2 underlying112 sZ rfl rfl (d.vec.isSome kU (by omega)) rfl (by omega)) rfl ?_)))))))
    have ab:=(aa.le m)
    refine Wr (.pg (v:= .int .u64 (((([ch.p0,ch.p1,ch.p2,ch.p3,ch.p4]).getD 2 0):Nat):Int)) qj rfl ab.vec kU (lF ([ch.p0,ch.p1,ch.p2,ch.p3,ch.p4]) 0 (by first|omega|(simp only[List.length_cons,List.length_nil];omega))) rfl) rfl ?_
    refine W.cl zf rfl rfl (o7 (([ch.p0,ch.p1,ch.p2,ch.p3,ch.p4]).getD 2 0) (by assumption) aF) ?_
    rintro _ aG ⟨rfl,n⟩
    refine Wn 1 rfl (Nx (WC.kF rfl (WC.skip (E.jZ (E.jG (WC.region (Wn 1 rfl (Wa (.as (.add rfl rfl (by decide)) rfl) rfl (Wn 1 rfl (W.nil (E.round (qK.step (Sq (Sr (Wn 1 rfl ?_)))))))))))))))
    refine Wa (.dec (.lss rfl rfl) (show _=true from by first|decide|rfl)) rfl ?_
    refine Nx (WC.jS rfl (Sn (Sq (WC.block (Sr (Wn 2 rfl (Wa (.lL 3 underlying112 sZ rfl rfl (d.vec.isSome kU (by omega)) rfl (by omega)) rfl ?_)))))))
    have ac:=(ab.le n)
    refine Wr (.pg (v:= .int .u64 (((([ch.p0,ch.p1,ch.p2,ch.p3,ch.p4]).getD 3 0):Nat):Int)) qj rfl ac.vec kU (lF ([ch.p0,ch.p1,ch.p2,ch.p3,ch.p4]) 0 (by first|omega|(simp only[List.length_cons,List.length_nil];omega))) rfl) rfl ?_
    refine W.cl zf rfl rfl (o7 (([ch.p0,ch.p1,ch.p2,ch.p3,ch.p4]).getD 3 0) (by assumption) aG) ?_
    rintro _ aH ⟨rfl,o⟩
    refine Wn 1 rfl (Nx (WC.kF rfl (WC.skip (E.jZ (E.jG (WC.region (Wn 1 rfl (Wa (.as (.add rfl rfl (by decide)) rfl) rfl (Wn 1 rfl (W.nil (E.round (qK.step (Sq (Sr (Wn 1 rfl ?_)))))))))))))))
    refine Wa (.dec (.lss rfl rfl) (show _=true from by first|decide|rfl)) rfl ?_
    refine Nx (WC.jS rfl (Sn (Sq (WC.block (Sr (Wn 2 rfl (Wa (.lL 4 underlying112 sZ rfl rfl (d.vec.isSome kU (by omega)) rfl (by omega)) rfl (Wr (.pg (v:= .int .u64 (((([ch.p0,ch.p1,ch.p2,ch.p3,ch.p4]).getD 4 0):Nat):Int)) qj rfl (ac.le o).vec kU (lF ([ch.p0,ch.p1,ch.p2,ch.p3,ch.p4]) 0 (by first|omega|(simp only[List.length_cons,List.length_nil];omega))) rfl) rfl ?_))))))))
    refine W.cl zf rfl rfl (o7 (([ch.p0,ch.p1,ch.p2,ch.p3,ch.p4]).getD 4 0) (by assumption) aH) ?_
    rintro _ aT ⟨rfl,ad⟩
    have ae:=((((((((P.trans S).tb U P aA).trans X).trans k).trans l).trans m).trans n).trans o).trans ad
    refine Wn 1 rfl (Nx (WC.kF rfl (WC.skip (E.jZ (E.jG (WC.region (Wn 1 rfl (Wa (.as (.add rfl rfl (by decide)) rfl) rfl (Wn 1 rfl (W.nil (E.round (qK.step (Sq (Sr (Wn 1 rfl ?_)))))))))))))))
    refine Wa (.dec (.lss rfl rfl) (show _=false from by first|decide|rfl)) rfl ?_
    refine Nx (WC.kF rfl (WC.exit (E.jJ (E.jJ (E.ko (E.jZ (E.jG (WC.region (Wn 1 rfl (Wa (.as (.add rfl rfl (by decide)) rfl) rfl (Wn 1 rfl (W.nil (E.round (qK.step (Sq (Sr (Wn 1 rfl ?_)))))))))))))))))
    refine Wa (.dec (.lss rfl rfl) (show _=true from by first|decide|rfl)) rfl ?_
    refine Nx (WC.jS rfl (Sn (Sq (WC.block (Sr (Wn 1 rfl (Wa (.jE xY rfl) rfl (Wa (.mP 1 underlying42 Bb rfl rfl rfl (by omega)) rfl ?_))))))))
    have s:=(Y.le (k.trans (l.trans (m.trans (n.trans (o.trans ad))))))
    refine Wr (.mV [.int .u64 ((ch.p5:Nat):Int),.int .u64 ((ch.p6:Nat):Int),.int .u64 ((ch.p7:Nat):Int),.int .u64 ((ch.p8:Nat):Int),.int .u64 ((ch.p9:Nat):Int)] PX rfl (by decide) rfl s rfl) rfl (W.ef rfl rfl rfl (Ef.jR z41 fun af aI aJ (aK:jL aI af 41 (JP kD).toArray) ah=>(W.sA Bb rfl rfl aK ?_)))
    intro ai c aj
    have c:jL ai af 41 #[.int .u64 ((ch.p5:Nat):Int),.int .u64 ((ch.p6:Nat):Int),.int .u64 ((ch.p7:Nat):Int),.int .u64 ((ch.p8:Nat):Int),.int .u64 ((ch.p9:Nat):Int)]:=c
    refine Nx (Sr (Wa (.jE EK rfl) rfl (Wr (.jF (v:= .int .u64 ((ch.p5:Nat):Int)) qj rfl c rfl) rfl (Wa (.jE KN rfl) rfl (Wr (.jF (v:= .int .u64 ((ch.p6:Nat):Int)) qj rfl c rfl) rfl (Wa (.jE KO rfl) rfl ?_))))))
    refine Wr (.jF (v:= .int .u64 ((ch.p7:Nat):Int)) qj rfl c rfl) rfl (Wa (.jE KP rfl) rfl (Wr (.jF (v:= .int .u64 ((ch.p8:Nat):Int)) qj rfl c rfl) rfl (Wa (.jE KQ rfl) rfl (Wr (.jF (v:= .int .u64 ((ch.p9:Nat):Int)) qj rfl c rfl) rfl (W.ef rfl rfl rfl ?_)))))
    refine Ef.jX (len:=5) [_,_,_,_,_] underlying112 Hu rfl (by simp[Value.cells]) rfl (by decide) (by decide) ?_
    intro ak t aL u al
    have u:jL t ak 39 (([ch.p5,ch.p6,ch.p7,ch.p8,ch.p9]).map uN).flatten.toArray:=u
    have e:jO t ai.heap.size 39 uN 1 (some ⟨ak,0,none⟩) 5 5 ([ch.p5,ch.p6,ch.p7,ch.p8,ch.p9]):=u.pQ aL kU rfl rfl (by decide)
    refine Wn 1 rfl (Nx (Sq (Sr (Wn 1 rfl (Wa (.jE pV rfl) rfl (Wa (.mP 1 underlying45 rD rfl rfl rfl (by omega)) rfl ?_))))))
    have an:=(((s.le ah).cn aj (by have:=s.lt;omega)).le al)
    refine Wr (.mV [.int .i64 100,.int .i64 200,.int .i64 6,.int .i64 16,.int .i64 1,.int .i64 (1125899906842624)] FH rfl (by decide) rfl an rfl) rfl (W.cl UM rfl rfl (De 100 200 6 16 1 1125899906842624 (by decide) t) ?_)
    rintro _ aM ⟨rfl,x⟩
    refine Wn 1 rfl (Nx (WC.kF rfl (Sn (Sr (Wn 1 rfl (Nx (WC.block (WC.rounds 6 (qK.step (Sq (Sr (Wn 1 rfl (Wa (.dec (.lss rfl rfl) (show _=true from by first|decide|rfl)) rfl ?_)))))))))))))
    refine Nx (WC.jS rfl (Sn (Sq (WC.block (Sr (Wn 2 rfl (Wa (.lL 0 underlying112 sZ rfl rfl (e.vec.isSome kU (by omega)) rfl (by omega)) rfl ?_)))))))
    have ao:=(e.le x)
    refine Wr (.pg (v:= .int .u64 (((([ch.p5,ch.p6,ch.p7,ch.p8,ch.p9]).getD 0 0):Nat):Int)) qj rfl ao.vec kU (lF ([ch.p5,ch.p6,ch.p7,ch.p8,ch.p9]) 0 (by first|omega|(simp only[List.length_cons,List.length_nil];omega))) rfl) rfl ?_
    refine W.cl zf rfl rfl (o7 (([ch.p5,ch.p6,ch.p7,ch.p8,ch.p9]).getD 0 0) (by assumption) aM) ?_
    rintro _ aN ⟨rfl,y⟩
    refine Wn 1 rfl (Nx (WC.kF rfl (WC.skip (E.jZ (E.jG (WC.region (Wn 1 rfl (Wa (.as (.add rfl rfl (by decide)) rfl) rfl (Wn 1 rfl (W.nil (E.round (qK.step (Sq (Sr (Wn 1 rfl ?_)))))))))))))))
    refine Wa (.dec (.lss rfl rfl) (show _=true from by first|decide|rfl)) rfl ?_
    refine Nx (WC.jS rfl (Sn (Sq (WC.block (Sr (Wn 2 rfl (Wa (.lL 1 underlying112 sZ rfl rfl (e.vec.isSome kU (by omega)) rfl (by omega)) rfl ?_)))))))
    have ap:=(ao.le y)
    refine Wr (.pg (v:= .int .u64 (((([ch.p5,ch.p6,ch.p7,ch.p8,ch.p9]).getD 1 0):Nat):Int)) qj rfl ap.vec kU (lF ([ch.p5,ch.p6,ch.p7,ch.p8,ch.p9]) 0 (by first|omega|(simp only[List.length_cons,List.length_nil];omega))) rfl) rfl ?_
    refine W.cl zf rfl rfl (o7 (([ch.p5,ch.p6,ch.p7,ch.p8,ch.p9]).getD 1 0) (by assumption) aN) ?_
    rintro _ aO ⟨rfl,z⟩
    refine Wn 1 rfl (Nx (WC.kF rfl (WC.skip (E.jZ (E.jG (WC.region (Wn 1 rfl (Wa (.as (.add rfl rfl (by decide)) rfl) rfl (Wn 1 rfl (W.nil (E.round (qK.step (Sq (Sr (Wn 1 rfl ?_)))))))))))))))
    refine Wa (.dec (.lss rfl rfl) (show _=true from by first|decide|rfl)) rfl ?_
    refine Nx (WC.jS rfl (Sn (Sq (WC.block (Sr (Wn 2 rfl (Wa (.lL 2 underlying112 sZ rfl rfl (e.vec.isSome kU (by omega)) rfl (by omega)) rfl ?_)))))))
    have aq:=(ap.le z)
    refine Wr (.pg (v:= .int .u64 (((([ch.p5,ch.p6,ch.p7,ch.p8,ch.p9]).getD 2 0):Nat):Int)) qj rfl aq.vec kU (lF ([ch.p5,ch.p6,ch.p7,ch.p8,ch.p9]) 0 (by first|omega|(simp only[List.length_cons,List.length_nil];omega))) rfl) rfl ?_
    refine W.cl zf rfl rfl (o7 (([ch.p5,ch.p6,ch.p7,ch.p8,ch.p9]).getD 2 0) (by assumption) aO) ?_
    rintro _ aP ⟨rfl,A⟩
    refine Wn 1 rfl (Nx (WC.kF rfl (WC.skip (E.jZ (E.jG (WC.region (Wn 1 rfl (Wa (.as (.add rfl rfl (by decide)) rfl) rfl (Wn 1 rfl (W.nil (E.round (qK.step (Sq (Sr (Wn 1 rfl ?_)))))))))))))))
    refine Wa (.dec (.lss rfl rfl) (show _=true from by first|decide|rfl)) rfl ?_
    refine Nx (WC.jS rfl (Sn (Sq (WC.block (Sr (Wn 2 rfl (Wa (.lL 3 underlying112 sZ rfl rfl (e.vec.isSome kU (by omega)) rfl (by omega)) rfl ?_)))))))
    have ar:=(aq.le A)
    refine Wr (.pg (v:= .int .u64 (((([ch.p5,ch.p6,ch.p7,ch.p8,ch.p9]).getD 3 0):Nat):Int)) qj rfl ar.vec kU (lF ([ch.p5,ch.p6,ch.p7,ch.p8,ch.p9]) 0 (by first|omega|(simp only[List.length_cons,List.length_nil];omega))) rfl) rfl ?_
    refine W.cl zf rfl rfl (o7 (([ch.p5,ch.p6,ch.p7,ch.p8,ch.p9]).getD 3 0) (by assumption) aP) ?_
    rintro _ aQ ⟨rfl,B⟩
    refine Wn 1 rfl (Nx (WC.kF rfl (WC.skip (E.jZ (E.jG (WC.region (Wn 1 rfl (Wa (.as (.add rfl rfl (by decide)) rfl) rfl (Wn 1 rfl (W.nil (E.round (qK.step (Sq (Sr (Wn 1 rfl ?_)))))))))))))))
    refine Wa (.dec (.lss rfl rfl) (show _=true from by first|decide|rfl)) rfl ?_
    refine Nx (WC.jS rfl (Sn (Sq (WC.block (Sr (Wn 2 rfl (Wa (.lL 4 underlying112 sZ rfl rfl (e.vec.isSome kU (by omega)) rfl (by omega)) rfl (Wr (.pg (v:= .int .u64 (((([ch.p5,ch.p6,ch.p7,ch.p8,ch.p9]).getD 4 0):Nat):Int)) qj rfl (ar.le B).vec kU (lF ([ch.p5,ch.p6,ch.p7,ch.p8,ch.p9]) 0 (by first|omega|(simp only[List.length_cons,List.length_nil];omega))) rfl) rfl ?_))))))))
    refine W.cl zf rfl rfl (o7 (([ch.p5,ch.p6,ch.p7,ch.p8,ch.p9]).getD 4 0) (by assumption) aQ) ?_
    rintro _ aU ⟨rfl,au⟩
    refine Wn 1 rfl (Nx (WC.kF rfl (WC.skip (E.jZ (E.jG (WC.region (Wn 1 rfl (Wa (.as (.add rfl rfl (by decide)) rfl) rfl (Wn 1 rfl (W.nil (E.round (qK.step (Sq (Sr (Wn 1 rfl ?_)))))))))))))))
    refine Wa (.dec (.lss rfl rfl) (show _=false from by first|decide|rfl)) rfl ?_
    refine Nx (WC.kF rfl (WC.exit (E.jJ (E.jJ (E.ko (E.jZ (E.jG (WC.region (Wn 1 rfl (Wa (.as (.add rfl rfl (by decide)) rfl) rfl (Wn 1 rfl (W.nil (E.round (qK.step (Sq (Sr (Wn 1 rfl ?_)))))))))))))))))
    refine Wa (.dec (.lss rfl rfl) (show _=false from by first|decide|rfl)) rfl ?_
    refine Nx (WC.kF rfl (WC.exit (E.jJ (E.jJ (E.ko (E.jG (Sq (Sr (Wa (.jE pV rfl) rfl (Wa (.mP 0 underlying45 rD rfl rfl rfl (by omega)) rfl (Wa (.mg wX rfl) rfl ?_)))))))))))
    have C:=(an.le (x.trans (y.trans (z.trans (A.trans (B.trans au))))))
    refine Wr (.jF (v:= .int .i64 200) j5 rfl C rfl) rfl (Wa (.jE pV rfl) rfl (Wa (.mP 1 underlying45 rD rfl rfl rfl (by omega)) rfl (Wa (.mg wX rfl) rfl (Wr (.jF (v:= .int .i64 200) j5 rfl C rfl) rfl (Wa (.as (.add rfl rfl (by decide)) rfl) rfl ?_)))))
    refine Wa (.jE qA rfl) rfl (Wr (.jF (v:= .int .i64 ch.am) j5 rfl C rfl) rfl (Wn 1 rfl (Nx ?_)))
    by_cases c5:ch.am<400
    ·refine Cy rfl (dT c5) (Sr (Wn 1 rfl (Nx (Rt (E.jH (E.jI rfl rfl ?_))))))
     exfalso;simp only[l8,decide_eq_true_eq]at*;omega
    refine Cn rfl (dF c5) (Sn (Sr (Wn 1 rfl (Nx (Rt (E.jI rfl rfl ?_))))))
    exact⟨rfl,(((((((((ae.trans ah).tb aj ae aJ).trans al).trans x).trans y).trans z).trans A).trans B).trans au)⟩
   refine Cy rfl (congrArg not (Bool.eq_false_iff.2 Q)) (Sr (Wn 1 rfl (Nx (Rt (E.jH (E.jI rfl rfl ?_))))))
   exfalso;simp only[l8,decide_eq_true_eq]at*;omega
  refine Wa (.dec (.move rfl) (congrArg not (Bool.eq_false_iff.2 L))) rfl (Wn 5 rfl (Nx (WC.jS rfl (Sr (Wn 1 rfl (Nx (Rt (E.jH (E.jI rfl rfl ?_)))))))))
  exfalso;simp only[l8,decide_eq_true_eq]at*;omega
 refine Wa (.dec (.move rfl) (congrArg not (Bool.eq_false_iff.2 I))) rfl (Wn 12 rfl (Nx (WC.jS rfl (Sr (Wn 1 rfl (Nx (Rt (E.jH (E.jI rfl rfl ?_)))))))))
 exfalso;simp only[l8,decide_eq_true_eq]at*;omega

theorem Ij (h:List Byte)(hh:h.length=32){g:Nat}(w:World):Calls prog 98 #[.slice (some ⟨g,0,none⟩) 0 0,.agg (qX h).toArray] w fun r w'=>∃A' c',r= .returned (.slice A' 32 c')/\jO w' w.heap.size 5 kL 1 A' 32 c' h/\Le w w':=by
  rw[sD hh]
  refine(KW h hh w (tN (jO.nil w 0 0 kL 1 (some ⟨g,0,none⟩)).vec) (by decide) (c:=0)).mono fun r w' hx=>?_
  obtain⟨A',c',rfl,hO,hl⟩:=hx
  exact⟨A',c',by rw[Nat.zero_add],by rw[Nat.zero_add,List.nil_append]at hO;exact Cf hO,hl⟩
theorem Oo {A:Option Addr}{n c:Nat}{vs:List Value}{ps:List (List Byte)}{name:ByteArray}(nm:List Byte)(w:World)(hnm:byteCells name=nm.map lD)(hV:Sl w 1 A n vs)(hP:Parts w vs ps)(hT:(nP nm ps).length<=1099511627776):Calls prog 97 #[.string name,.slice A n c] w fun e w'=>e= .returned (.agg (qX (tag nm ps)).toArray)/\Le w w':=by
  rw[sD (nE _ _)]
  exact TC name nm w hnm hV hP hT

theorem wE (seed:List Byte)(hse:seed.length=32)(j:Nat)(w:World):Calls prog 53 #[.agg (qX seed).toArray,lD (BitVec.ofNat 8 j)] w fun r w'=>r= .returned (.agg (qX (nL seed j)).toArray)/\Le w w':=by
 refine enter func53 rfl rfl (Sr (W.ef rfl rfl rfl (Ef.mH rfl fun B C U (D:jL C B 23 (qX seed).toArray) F=>?_)))
 have l:=(Le.refl w).trans F
 refine W.ef rfl rfl rfl (Ef.jR z23 fun m o H (I:jL o m 23 (qX noH).toArray) t=>(Nx (Sr (W.ef rfl rfl rfl (Ef.oH underlying122 wV fun J u V X c=>?_)))))
 have Y:jO u o.heap.size 5 kL 1 (some ⟨J,0,none⟩) 0 0 []:=jO.nil _ _ _ _ _ _
 refine Wr (.jK sV (by rfl) rfl (D.le (t.trans c))) rfl ?_
 refine W.cl abb rfl rfl (Ij seed hse u) ?_
 rintro _ K ⟨L,N,rfl,O,x⟩
 refine Wn 1 rfl (W.ef rfl rfl rfl (Ef.jX (len:=1) [_] underlying122 wV rfl (by simp[Value.cells,lD]) rfl (by decide) (by decide) ?_))
 intro d y P e f
 have e:jL y d 5 (([(BitVec.ofNat 8 j)]).map kL).flatten.toArray:=e
 have Q:jO y K.heap.size 5 kL 1 (some ⟨d,0,none⟩) 1 1 ([(BitVec.ofNat 8 j)]):=e.pQ P kY rfl rfl (by decide)
 refine W.ef rfl rfl rfl (Ef.pO [_,_] underlying210 JB rfl (by intro v hv;simp at hv;rcases hv with rfl|rfl<;>rfl) rfl (by decide) (by decide) ?_)
 intro R z Z i b
 have i:jL z R 122 #[.slice L 32 N,.slice (some ⟨d,0,none⟩) 1 1]:=i
 refine W.cl aba rfl rfl (Oo QZ (ps:=[seed,[(BitVec.ofNat 8 j)]]) z rfl (i.sl (s:=1) (n:=2) rfl) (.cons (tN (O.le (f.trans b)).vec) (.cons (tN (Q.le b).vec) (.nil _))) (by simp[nP,hse,QZ];decide)) ?_
 rintro _ aa ⟨rfl,A⟩
 refine W.kP rfl rfl (Ef.storeAll zx (by rfl) rfl rfl (I.le (c.trans (x.trans (f.trans (b.trans A))))) (by simp only[List.size_toArray,yh.len]) (yh.one (tag QZ [seed,[(BitVec.ofNat 8 j)]])) ?_)
 intro S k T
 have k:jL S m 23 (qX (tag QZ [seed,[(BitVec.ofNat 8 j)]])).toArray:=k
 refine Nx (Rt (E.jI rfl (lS rfl k sV (by rfl)) ?_))
 exact⟨rfl,(((((((l.trans t).trans c).trans x).trans f).trans b).trans A).tb T l H)⟩

theorem ME (seed:List Byte)(hse:seed.length=32)(w:World):Calls prog 24 #[.agg (qX seed).toArray] w fun r w'=>r= .returned (.agg (wB (jN seed)).toArray)/\Le w w':=by
 refine enter func24 rfl rfl (Sr (W.ef rfl rfl rfl (Ef.mH rfl fun y z V (A:jL z y 23 (qX seed).toArray) B=>?_)))
 have u:=(Le.refl w).trans B
 refine W.ef rfl rfl rfl (Ef.jR z50 fun v C D (F:jL C v 50 (wB E5).toArray) x=>(Nx (Sq (WC.draw [0,3,6,9,12,15,1,2,4,5,7,8,10,11,13,14,16,17,18] mixed (by kernel_rfl) fun H c=>?_))))
 have b:=(A.le (x.trans c))
 refine Gd rfl (.jK sV (by rfl) rfl b) ?_
 refine Gd rfl (.jK sV (by rfl) rfl b) ?_
 refine Gd rfl (.jK sV (by rfl) rfl b) ?_
 refine Gd rfl (.jK sV (by rfl) rfl b) ?_
 refine Gd rfl (.jK sV (by rfl) rfl b) ?_
 refine Gd rfl (.jK sV (by rfl) rfl b) ?_
 refine G.ef rfl rfl rfl rfl rfl (Ef.call NF rfl rfl (wE seed hse 1 H) ?_)
 rintro _ I ⟨rfl,d⟩
 refine⟨_,rfl,?_⟩
 refine⟨fun _=>d,?_⟩
 refine G.ef rfl rfl rfl rfl rfl (Ef.call Qd rfl rfl (uH (nL seed 1) (by first|assumption|exact nE _ _) I) ?_)
 rintro _ J ⟨rfl,e⟩
 refine⟨_,rfl,?_⟩
 refine⟨fun _=>e,?_⟩
 refine G.ef rfl rfl rfl rfl rfl (Ef.call NF rfl rfl (wE seed hse 2 J) ?_)
 rintro _ K ⟨rfl,f⟩
 refine⟨_,rfl,?_⟩
 refine⟨fun _=>f,?_⟩
 refine G.ef rfl rfl rfl rfl rfl (Ef.call Qd rfl rfl (uH (nL seed 2) (by first|assumption|exact nE _ _) K) ?_)
 rintro _ L ⟨rfl,i⟩
 refine⟨_,rfl,?_⟩
 refine⟨fun _=>i,?_⟩
 refine G.ef rfl rfl rfl rfl rfl (Ef.call NF rfl rfl (wE seed hse 3 L) ?_)
 rintro _ N ⟨rfl,j⟩
 refine⟨_,rfl,?_⟩
 refine⟨fun _=>j,?_⟩
 refine G.ef rfl rfl rfl rfl rfl (Ef.call Qd rfl rfl (uH (nL seed 3) (by first|assumption|exact nE _ _) N) ?_)
 rintro _ O ⟨rfl,k⟩
 refine⟨_,rfl,?_⟩
 refine⟨fun _=>k,?_⟩
 refine G.ef rfl rfl rfl rfl rfl (Ef.call NF rfl rfl (wE seed hse 4 O) ?_)
 rintro _ P ⟨rfl,l⟩
 refine⟨_,rfl,?_⟩
 refine⟨fun _=>l,?_⟩
 refine G.ef rfl rfl rfl rfl rfl (Ef.call Qd rfl rfl (uH (nL seed 4) (by first|assumption|exact nE _ _) P) ?_)
 rintro _ Q ⟨rfl,m⟩
 refine⟨_,rfl,?_⟩
 refine⟨fun _=>m,?_⟩
 refine G.ef rfl rfl rfl rfl rfl (Ef.call NF rfl rfl (wE seed hse 5 Q) ?_)
 rintro _ R ⟨rfl,n⟩
 refine⟨_,rfl,?_⟩
 refine⟨fun _=>n,?_⟩
 refine G.ef rfl rfl rfl rfl rfl (Ef.call Qd rfl rfl (uH (nL seed 5) (by first|assumption|exact nE _ _) R) ?_)
 rintro _ S ⟨rfl,o⟩
 refine⟨_,rfl,?_⟩
 refine⟨fun _=>o,?_⟩
 refine G.ef rfl rfl rfl rfl rfl (Ef.call NF rfl rfl (wE seed hse 6 S) ?_)
 rintro _ X ⟨rfl,s⟩
 refine⟨_,rfl,?_⟩
 refine⟨fun _=>s,?_⟩
 refine Ga rfl (.kK (wB (⟨nZ (nL seed 1),nZ (nL seed 2),nZ (nL seed 3),nZ (nL seed 4),nZ (nL seed 5),(nL seed 6)⟩)) abg z50 rfl rfl) (G.kP rfl rfl rfl rfl (Ef.storeAll PY (by rfl) rfl rfl (F.le (c.trans (d.trans (e.trans (f.trans (i.trans (j.trans (k.trans (l.trans (m.trans (n.trans (o.trans s)))))))))))) (by simp only[List.size_toArray,wC.len]) (wC.one (⟨nZ (nL seed 1),nZ (nL seed 2),nZ (nL seed 3),nZ (nL seed 4),nZ (nL seed 5),(nL seed 6)⟩)) ?_))
 intro T t U
 refine noT (by kernel_rfl) ?_
 have t:jL T v 50 (wB (⟨nZ (nL seed 1),nZ (nL seed 2),nZ (nL seed 3),nZ (nL seed 4),nZ (nL seed 5),(nL seed 6)⟩)).toArray:=t
 refine G.nil (E.jG (Rt (E.jI rfl (lS rfl t VC (by rfl)) ?_)))
 exact⟨rfl,((((((((((((((u.trans x).trans c).trans d).trans e).trans f).trans i).trans j).trans k).trans l).trans m).trans n).trans o).trans s).tb U u D)⟩

theorem E8 (k:Kt)(w:World):Calls prog 25 #[.agg (wB k).toArray] w fun r w'=>r= .returned (.agg (JP (kg k)).toArray)/\Le w w':=by
 refine enter func25 rfl rfl (Sr (W.ef rfl rfl rfl (Ef.mH rfl fun x y O (z:jL y x 50 (wB k).toArray) A=>?_)))
 have s:=(Le.refl w).trans A
 refine W.ef rfl rfl rfl (Ef.jR z41 fun t B C (D:jL B t 41 (JP kD).toArray) u=>(Nx (Sq (WC.draw [0,1,3,4,6,7,9,10,12,13,2,5,8,11,14,15,16] mixed (by kernel_rfl) fun F d=>(Ga rfl (.jE VS rfl) ?_)))))
 have b:=(z.le (u.trans d))
 refine Gd rfl (.jF (v:= .int .u64 ((k.f:Nat):Int)) Nz rfl b rfl) (Ga rfl (.jE VT rfl) (Gd rfl (.jF (v:= .int .u64 ((k.p:Nat):Int)) Nz rfl b rfl) (Ga rfl (.jE VU rfl) (Gd rfl (.jF (v:= .int .u64 ((k.l:Nat):Int)) Nz rfl b rfl) (Ga rfl (.jE VV rfl) ?_)))))
 refine Gd rfl (.jF (v:= .int .u64 ((k.c:Nat):Int)) Nz rfl b rfl) (Ga rfl (.jE VW rfl) (Gd rfl (.jF (v:= .int .u64 ((k.r:Nat):Int)) Nz rfl b rfl) (G.ef rfl rfl rfl rfl rfl (Ef.call Qe rfl rfl (x9 k.f F) ?_))))
 rintro _ H ⟨rfl,e⟩
 refine⟨_,rfl,?_⟩
 refine⟨fun _=>e,?_⟩
 refine G.ef rfl rfl rfl rfl rfl (Ef.call Qe rfl rfl (x9 k.p H) ?_)
 rintro _ I ⟨rfl,i⟩
 refine⟨_,rfl,?_⟩
 refine⟨fun _=>i,?_⟩
 refine G.ef rfl rfl rfl rfl rfl (Ef.call Qe rfl rfl (x9 k.l I) ?_)
 rintro _ J ⟨rfl,j⟩
 refine⟨_,rfl,?_⟩
 refine⟨fun _=>j,?_⟩
 refine G.ef rfl rfl rfl rfl rfl (Ef.call Qe rfl rfl (x9 k.c J) ?_)
 rintro _ K ⟨rfl,m⟩
 refine⟨_,rfl,?_⟩
 refine⟨fun _=>m,?_⟩
 refine G.ef rfl rfl rfl rfl rfl (Ef.call Qe rfl rfl (x9 k.r K) ?_)
 rintro _ P ⟨rfl,n⟩
 refine⟨_,rfl,?_⟩
 refine⟨fun _=>n,?_⟩
 refine Ga rfl (.kK (JP (⟨base k.f,base k.p,base k.l,base k.c,base k.r⟩)) abe z41 rfl rfl) (G.kP rfl rfl rfl rfl (Ef.storeAll Bb (by rfl) rfl rfl (D.le (d.trans (e.trans (i.trans (j.trans (m.trans n)))))) (by simp only[List.size_toArray,Br.len]) (Br.one (⟨base k.f,base k.p,base k.l,base k.c,base k.r⟩)) ?_))
 intro L o N
 refine noT (by kernel_rfl) ?_
 have o:jL L t 41 (JP (⟨base k.f,base k.p,base k.l,base k.c,base k.r⟩)).toArray:=o
 refine G.nil (E.jG (Rt (E.jI rfl (lS rfl o PX (by rfl)) ?_)))
 exact⟨rfl,((((((((s.trans u).trans d).trans e).trans i).trans j).trans m).trans n).tb N s C)⟩
end Go.Proofs.YtcaehidaejhdfaaGreat

namespace Go.Proofs.YtcaehidaejhdfaaGreat
open Go Go.Sx Go.wI Go.Num Go.Ac Go.rZ Go.Lsp Go.Fv
set_option maxRecDepth 20000
structure yH where
  kA:Option Addr
  kN:Nat
  kC:Nat
  af:Int
  dl:Int
  sec:Nat
structure uO where
  am:Int
  bA:Option Addr
  bN:Nat
  bC:Nat
abbrev H32:={l:List Byte//l.length=32}
structure Cw where
  id:H32
  no:Int
  deriving DecidableEq
structure pY where
  op:Cw
  br:Int
  sA:Option Addr
  sN:Nat
  sC:Nat
  sec:Nat
structure Ke where
  op:Cw
  am:Int
def kT:yH:=⟨none,0,0,0,0,0⟩
def kQ:uO:=⟨0,none,0,0⟩
def kv:Cw:=⟨⟨noH,by simp[noH]⟩,0⟩
def jP:pY:=⟨kv,0,none,0,0,0⟩
def lH:Ke:=⟨kv,0⟩
def yI (r:yH):List Value:=[.slice r.kA r.kN r.kC,.int .i64 r.af,.int .i64 r.dl,.int .u64 ((r.sec:Nat):Int)]
def xC (r:uO):List Value:=[.int .i64 r.am,.slice r.bA r.bN r.bC]
def BX (r:Cw):List Value:=qX r.id.1++[.int .i64 r.no]
def xy (r:pY):List Value:=BX r.op++[.int .i64 r.br,.slice r.sA r.sN r.sC,.int .u64 ((r.sec:Nat):Int)]
def JQ (r:Ke):List Value:=BX r.op++[.int .i64 r.am]
theorem nX:oz yI 4:=⟨fun _=>rfl,fun x v hv=>by simp[yI]at hv;rcases hv with rfl|rfl|rfl|rfl<;>rfl,by decide⟩
theorem kV:oz xC 2:=⟨fun _=>rfl,fun x v hv=>by simp[xC]at hv;rcases hv with rfl|rfl<;>rfl,by decide⟩
theorem qo:oz BX 33:=⟨fun x=>by simp[BX,qX],fun x v hv=>by
  rcases List.mem_append.1 hv with hv|hv
  · exact Bq _ v hv
  · simp at hv;subst hv;rfl,by decide⟩
theorem kS:oz xy 36:=⟨fun x=>by simp[xy,qo.len],fun x v hv=>by
  rcases List.mem_append.1 hv with hv|hv
  · exact qo.one _ v hv
  · simp at hv;rcases hv with rfl|rfl|rfl<;>rfl,by decide⟩
theorem nK:oz JQ 34:=⟨fun x=>by simp[JQ,qo.len],fun x v hv=>by
  rcases List.mem_append.1 hv with hv|hv
  · exact qo.one _ v hv
  · simp at hv;subst hv;rfl,by decide⟩
structure Fx where
  keys:List Nat
  af:Int
  dl:Int
  sec:Nat
structure nC where
  am:Int
  bs:List Fx
def wF:Fx:=⟨[],0,0,0⟩
def oO:nC:=⟨0,[]⟩
structure Lb (w:World)(r:yH)(b:Fx):Prop where
  af:r.af=b.af
  dl:r.dl=b.dl
  sec:r.sec=b.sec
  slt:b.sec<18446744073709551616
  keys:Vec w uN 1 r.kA r.kN b.keys
  lt:∀k∈b.keys,k<18446744073709551616
def xz (w:World)(_:Nat)(rs:List yH)(bs:List Fx):Prop:=rs.length=bs.length/\∀i,i<bs.length->Lb w (rs.getD i kT) (bs.getD i wF)
structure Oq (w:World)(r:uO)(o:nC):Prop where
  am:r.am=o.am
  few:o.bs.length<=9223372036854775807
  rows:∃rs,Vec w yI 4 r.bA r.bN rs/\xz w 0 rs o.bs
def oF (w:World)(_:Nat)(rs:List uO)(os:List nC):Prop:=rs.length=os.length/\∀i,i<os.length->Oq w (rs.getD i kQ) (os.getD i oO)
section
variable {w w':World}{b b':Nat}{r:yH}{z:Fx}{rs:List yH}{bs:List Fx}{o:uO}{y:nC}{os:List uO}{ys:List nC}
theorem Lb.le (h:Lb w r z)(k:Le w w'):Lb w' r z:=⟨h.1,h.2,h.3,h.4,h.5.le k,h.6⟩
theorem xz.le (h:xz w b rs bs)(k:Le w w'):xz w' b rs bs:=⟨h.1,fun i hi=>(h.2 i hi).le k⟩
theorem Oq.le (h:Oq w o y)(k:Le w w'):Oq w' o y:=⟨h.1,h.2,let⟨q,h1,h2⟩:=h.3;⟨q,h1.le k,h2.le k⟩⟩
theorem oF.le (h:oF w b os ys)(k:Le w w'):oF w' b os ys:=⟨h.1,fun i hi=>(h.2 i hi).le k⟩
theorem xz.mono (h:xz w b rs bs):xz w b' rs bs:=h
theorem oF.mono (h:oF w b os ys):oF w b' os ys:=h
end
def yS (n:Int):Bool:=decide (0<=n)&&decide (n<=1048576)
def Ot (b:Fx):Bool:=decide (b.keys.length<=12)&& !(b.keys.any fun p=> !right p)&&yS b.af&&yS b.dl&&(decide (b.sec=0)||right b.sec)
def sj (l:List Fx):Bool:=l.all Ot&&decide (0<l.length)&&decide (l.length<=4)
def Ik (r:pY):Bool:=decide (0<=r.br)&&decide (r.br<4)&&decide (r.sN<=12)
def xe:Int->List nC->Option Int
  |s,[]=>some s
  |s,o::os=>if(pG s o.am).2&&sj o.bs then xe (pG s o.am).1 os else none
end Go.Proofs.YtcaehidaejhdfaaGreat

namespace Go.Proofs.YtcaehidaejhdfaaGreat
open Go Go.Sx Go.Num Go.rZ Go.Lsp Go.Fv
set_option maxRecDepth 20000
theorem h_0 (s:vI){i:Int}(h:i=0):s.h i=s.h0:=by unfold vI.h;rw[if_pos h]
theorem h_1 (s:vI){i:Int}(h:¬i=0):s.h i=s.h1:=by unfold vI.h;rw[if_neg h]
end Go.Proofs.YtcaehidaejhdfaaGreat

namespace Go.Proofs.YtcaehidaejhdfaaGreat
open Tryz
open Go Go.Sx Go.wI Go.Num Go.Ac Go.rZ Go.Lsp Go.Fv
set_option maxRecDepth 20000
def Ou (am:Int)(s:vI):Prop:=(0<=s.no/\s.no<=1048576)/\(0<=s.h0/\s.h0<=1125899906842624)/\(0<=s.h1/\s.h1<=1125899906842624)/\(0<=s.rt/\s.rt<=1000)/\s.h0+s.h1=am
theorem Bt (n lo hi:Int)(w:World):Calls prog 56 #[.int .i64 n,.int .i64 lo,.int .i64 (hi)] w fun r w'=>r= .returned (.bool (l8 n lo hi))/\Le w w':=by
 refine enter func56 rfl rfl ?_
 have c:=Le.refl w
 refine Sr (Wn 1 rfl (Nx (Sr (Wn 3 rfl ?_))))
 by_cases b:lo<=n
 ·refine Dt b rfl rfl (Wn 5 rfl (Nx (Rt (E.jI rfl rfl ?_))))
  exact⟨(by first|rfl|(simp[l8,b];done)|(simp[l8,b];omega)|(simp[l8,b];split<;>first|(exfalso;omega)|(simp;done)|(simp;omega))),c⟩
 refine Df b rfl rfl (Wn 5 rfl (Nx (Rt (E.jI rfl rfl ?_))))
 exact⟨(by first|rfl|(simp[l8,b];done)|(simp[l8,b];omega)|(simp[l8,b];split<;>first|(exfalso;omega)|(simp;done)|(simp;omega))),c⟩

theorem JR (s:vI)(to:Int)(w:World):Calls prog 59 #[.agg #[.int .i64 s.no,.int .i64 s.h0,.int .i64 s.h1,.slice none 0 0,.int .i64 (s.rt)],.int .i64 (to)] w fun r w'=>r= .returned (.tuple #[.int .i64 0,.int .i64 0])/\Le w w':=by
 refine enter func59 rfl rfl (Sr (W.ef rfl rfl rfl (Ef.mH rfl fun b c f (d:jL c b 55 #[.int .i64 s.no,.int .i64 s.h0,.int .i64 s.h1,.slice none 0 0,.int .i64 (s.rt)]) e=>(Wn 2 rfl (Nx (Sr (Wn 1 rfl (Nx (Sr (Wn 1 rfl (Nx (Sq (Sr (Wn 1 rfl (Nx (WC.block (WC.rounds 1 (qK.step ?_))))))))))))))))))
 refine Sq (Sr (Wn 1 rfl (Wa (.jE tu rfl) rfl (Wr (.jF (v:= .slice none 0 0) EG rfl d rfl) rfl (Wr (.len underlying53 rfl) rfl (Wa (.dec (.lss rfl rfl) (show _=false from by first|decide|rfl)) rfl ?_))))))
 refine Nx (WC.kF rfl (WC.exit (E.jJ (E.jJ (E.ko (E.jG (Sr (Wn 4 rfl (Nx (Rt (E.mI rfl rfl rfl ?_)))))))))))
 exact⟨rfl,((Le.refl w).trans e)⟩

theorem Q0 {s:vI}(w:World)(hb:(0<=s.h0/\s.h0<=1125899906842624)/\0<=s.h1/\s.h1<=1125899906842624):Calls prog 60 #[.agg #[.int .i64 s.no,.int .i64 s.h0,.int .i64 s.h1,.slice none 0 0,.int .i64 (s.rt)]] w fun r w'=>r= .returned (.int .i64 (s.h0+s.h1))/\Le w w':=by
 refine enter func60 rfl rfl (Sr (W.ef rfl rfl rfl (Ef.mH rfl fun c d f (b:jL d c 55 #[.int .i64 s.no,.int .i64 s.h0,.int .i64 s.h1,.slice none 0 0,.int .i64 (s.rt)]) e=>(Wn 1 rfl (Nx (Sr (Wa (.jE lT rfl) rfl (Wa (.j3 0 underlying52 kz rfl rfl rfl (by omega)) rfl ?_))))))))
 refine Wr (.jF (v:= .int .i64 s.h0) j5 rfl b rfl) rfl (Wa (.jE lT rfl) rfl (Wa (.j3 1 underlying52 kz rfl rfl rfl (by omega)) rfl (Wr (.jF (v:= .int .i64 s.h1) j5 rfl b rfl) rfl (Wa (.add rfl rfl (by omega)) rfl (Wn 1 rfl (Nx (Sq (Sr (Wn 1 rfl (Nx (WC.block ?_)))))))))))
 refine WC.rounds 1 (qK.step (Sq (Sr (Wn 1 rfl (Wa (.jE tu rfl) rfl (Wr (.jF (v:= .slice none 0 0) EG rfl b rfl) rfl (Wr (.len underlying53 rfl) rfl ?_)))))))
 refine Wa (.dec (.lss rfl rfl) (show _=false from by first|decide|rfl)) rfl ?_
 refine Nx (WC.kF rfl (WC.exit (E.jJ (E.jJ (E.ko (E.jG (Sr (Wn 2 rfl (Nx (Rt (E.jI rfl rfl ?_)))))))))))
 exact⟨rfl,((Le.refl w).trans e)⟩

theorem GA (ch:IC){s:vI}(w:World)(hrt:0<=s.rt/\s.rt<=1000):Calls prog 61 #[.agg (tX ch).toArray,.agg #[.int .i64 s.no,.int .i64 s.h0,.int .i64 s.h1,.slice none 0 0,.int .i64 (s.rt)]] w fun r w'=>r= .returned (.int .i64 (u7 s.rt 0))/\Le w w':=by
 have hmul:=MB hrt (show 0<=16 by decide)
 refine enter func61 rfl rfl (Sr (W.ef rfl rfl rfl (Ef.mH rfl fun j k l m d=>(W.ef rfl rfl rfl (Ef.mH rfl fun e b n (c:jL b e 55 #[.int .i64 s.no,.int .i64 s.h0,.int .i64 s.h1,.slice none 0 0,.int .i64 (s.rt)]) f=>(Wn 1 rfl (Nx (Sr ?_))))))))
 refine Wa (.jE H5 rfl) rfl (Wr (.jF (v:= .int .i64 s.rt) j5 rfl c rfl) rfl (Wa (.jE tu rfl) rfl (Wr (.jF (v:= .slice none 0 0) EG rfl c rfl) rfl (Wr (.len underlying53 rfl) rfl (W.cl Yv rfl rfl (Ol s.rt 0 (by omega) (by omega) b) ?_)))))
 rintro _ o ⟨rfl,i⟩
 refine Wa (.add rfl rfl (by omega)) rfl (Wn 1 rfl (Nx (Rt (E.jI rfl rfl ?_))))
 exact⟨rfl,((((Le.refl w).trans d).trans f).trans i)⟩

theorem Il (ch:IC)(hch:Gy ch){s:vI}(w:World)(hs:Ou ch.am s):Calls prog 26 #[.agg (tX ch).toArray,.agg #[.int .i64 s.no,.int .i64 s.h0,.int .i64 s.h1,.slice none 0 0,.int .i64 (s.rt)]] w fun r w'=>r= .returned (.bool (decide (u7 s.rt 0<=s.h ch.op)))/\Le w w':=by
 obtain⟨hno,U,V,hrt,htot⟩:=hs
 have ham:=hch.am;have hop:=hch.op
 refine enter func26 rfl rfl (Sr (W.ef rfl rfl rfl (Ef.mH rfl fun X Y al (Z:jL Y X 47 (tX ch).toArray) aa=>(W.ef rfl rfl rfl (Ef.mH rfl fun ab x an (ac:jL x ab 55 #[.int .i64 s.no,.int .i64 s.h0,.int .i64 s.h1,.slice none 0 0,.int .i64 (s.rt)]) y=>(Wn 1 rfl (Nx (Sq (Sr ?_)))))))))
 have z:=(Z.le y)
 refine Wr (.jK pU (by rfl) rfl z) rfl ?_
 refine W.cl aaZ rfl rfl (Om ch hch x) ?_
 rintro _ ad ⟨rfl,d⟩
 refine Wa (.dec (.neq rfl rfl) (show _=false from by first|decide|rfl)) rfl ?_
 refine Wn 1 rfl (Wg (Any.rd (.jE Qs rfl) _) rfl ?_)
 have A:=(ac.le d)
 refine Wg (.jF (v:= .int .i64 s.no) j5 rfl A rfl) rfl (W.mY rfl rfl rfl rfl rfl rfl (Ef.call Tu rfl rfl (Bt s.no 0 1048576 ad) ?_))
 rintro _ ae ⟨rfl,e⟩
 refine⟨_,rfl,?_⟩
 refine Wn 2 rfl ?_
 by_cases B:(l8 s.no 0 1048576)=true
 ·refine Wa (.dec (.move rfl) (congrArg not B)) rfl (Wg (Any.rd (.jE lT rfl) _) rfl (Wg (Any.rd (.j3 0 underlying52 kz rfl rfl rfl (by omega)) _) rfl ?_))
  have C:=(A.le e)
  refine Wg (.jF (v:= .int .i64 s.h0) j5 rfl C rfl) rfl (W.mY rfl rfl rfl rfl rfl rfl (Ef.call Tu rfl rfl (Bt s.h0 0 1125899906842624 ae) ?_))
  rintro _ af ⟨rfl,f⟩
  refine⟨_,rfl,?_⟩
  refine Wn 2 rfl ?_
  by_cases D:(l8 s.h0 0 1125899906842624)=true
  ·refine Wa (.dec (.move rfl) (congrArg not D)) rfl (Wg (Any.rd (.jE lT rfl) _) rfl (Wg (Any.rd (.j3 1 underlying52 kz rfl rfl rfl (by omega)) _) rfl ?_))
   have F:=(C.le f)
   refine Wg (.jF (v:= .int .i64 s.h1) j5 rfl F rfl) rfl (W.mY rfl rfl rfl rfl rfl rfl (Ef.call Tu rfl rfl (Bt s.h1 0 1125899906842624 af) ?_))
   rintro _ ah ⟨rfl,i⟩
   refine⟨_,rfl,?_⟩
   refine Wn 2 rfl ?_
   by_cases H:(l8 s.h1 0 1125899906842624)=true
   ·refine Wa (.dec (.move rfl) (congrArg not H)) rfl (Wg (Any.rd (.jE H5 rfl) _) rfl ?_)
    have I:=(F.le i)
    refine Wg (.jF (v:= .int .i64 s.rt) j5 rfl I rfl) rfl (W.mY rfl rfl rfl rfl rfl rfl (Ef.call Tu rfl rfl (Bt s.rt 0 1000 ah) ?_))
    rintro _ ai ⟨rfl,j⟩
    refine⟨_,rfl,?_⟩
    refine Wn 2 rfl ?_
    by_cases J:(l8 s.rt 0 1000)=true
    ·refine Wa (.dec (.move rfl) (congrArg not J)) rfl (Wg (Any.rd (.jE tu rfl) _) rfl ?_)
     have c:=(I.le j)
     refine Wg (.jF (v:= .slice none 0 0) EG rfl c rfl) rfl (Wg (.len underlying53 rfl) rfl (Wg (Any.rd (.dec (.gtr rfl rfl) (show _=false from by first|decide|rfl)) _) rfl ?_))
     refine Wn 1 rfl (Nx (WC.kF rfl (Sn (Sq (Sr (Wn 1 rfl (Nx (WC.block (WC.rounds 1 (qK.step (Sq (Sr (Wn 1 rfl (Wa (.jE tu rfl) rfl (Wr (.jF (v:= .slice none 0 0) EG rfl c rfl) rfl ?_)))))))))))))))
     refine Wr (.len underlying53 rfl) rfl (Wa (.dec (.lss rfl rfl) (show _=false from by first|decide|rfl)) rfl ?_)
     refine Nx (WC.kF rfl (WC.exit (E.jJ (E.jJ (E.ko (E.jG (Sq (Sr (Wn 1 rfl (Nx (WC.block (WC.rounds 3 (qK.step (Sq (Sr (Wn 1 rfl (Wa (.dec (.lss rfl rfl) (show _=true from by first|decide|rfl)) rfl ?_)))))))))))))))))
     refine Nx (WC.jS rfl (Sn (Sq (WC.block (Sr (Wr (.jK nU (by rfl) rfl c) rfl ?_))))))
     refine Wn 1 rfl (W.cl Yi rfl rfl (JR s 0 ai) ?_)
     rintro _ aj ⟨rfl,k⟩
     refine Wn 5 rfl (Nx (Sr (Wn 2 rfl (Wa (.jE pV rfl) rfl (Wa (.mP 0 underlying45 rD rfl rfl rfl (by omega)) rfl (Wa (.mg xW rfl) rfl ?_))))))
     have l:=(z.le (d.trans (e.trans (f.trans (i.trans (j.trans k))))))
     refine Wr (.jF (v:= .int .i64 16) j5 rfl l rfl) rfl (Wa (.dec (.gtr rfl rfl) (show _=false from by first|decide|rfl)) rfl ?_)
     refine Wn 3 rfl (Wg (Any.rd (.jE pV rfl) _) rfl (Wg (Any.rd (.mP 0 underlying45 rD rfl rfl rfl (by omega)) _) rfl (Wg (Any.rd (.mg xX rfl) _) rfl (Wg (.jF (v:= .int .i64 1125899906842624) j5 rfl l rfl) rfl (Wg (Any.rd (.dec (.gtr rfl rfl) (show _=false from by first|decide|rfl)) _) rfl ?_)))))
     refine Wn 1 rfl (Nx (WC.kF rfl (WC.skip (E.jZ (E.jG (WC.region (Wn 1 rfl (Wa (.as (.add rfl rfl (by decide)) rfl) rfl (Wn 1 rfl (W.nil (E.round (qK.step (Sq (Sr (Wn 1 rfl ?_)))))))))))))))
     refine Wa (.dec (.lss rfl rfl) (show _=true from by first|decide|rfl)) rfl ?_
     refine Nx (WC.jS rfl (Sn (Sq (WC.block (Sr ?_)))))
     have K:=(c.le k)
     refine Wr (.jK nU (by rfl) rfl K) rfl ?_
     refine Wn 1 rfl (W.cl Yi rfl rfl (JR s 1 aj) ?_)
     rintro _ ao ⟨rfl,m⟩
     refine Wn 5 rfl (Nx (Sr (Wn 2 rfl (Wa (.jE pV rfl) rfl (Wa (.mP 1 underlying45 rD rfl rfl rfl (by omega)) rfl (Wa (.mg xW rfl) rfl ?_))))))
     have n:=(l.le m)
     refine Wr (.jF (v:= .int .i64 16) j5 rfl n rfl) rfl (Wa (.dec (.gtr rfl rfl) (show _=false from by first|decide|rfl)) rfl ?_)
     refine Wn 3 rfl (Wg (Any.rd (.jE pV rfl) _) rfl (Wg (Any.rd (.mP 1 underlying45 rD rfl rfl rfl (by omega)) _) rfl (Wg (Any.rd (.mg xX rfl) _) rfl (Wg (.jF (v:= .int .i64 1125899906842624) j5 rfl n rfl) rfl (Wg (Any.rd (.dec (.gtr rfl rfl) (show _=false from by first|decide|rfl)) _) rfl ?_)))))
     refine Wn 1 rfl (Nx (WC.kF rfl (WC.skip (E.jZ (E.jG (WC.region (Wn 1 rfl (Wa (.as (.add rfl rfl (by decide)) rfl) rfl (Wn 1 rfl (W.nil (E.round (qK.step (Sq (Sr (Wn 1 rfl ?_)))))))))))))))
     refine Wa (.dec (.lss rfl rfl) (show _=false from by first|decide|rfl)) rfl ?_
     refine Nx (WC.kF rfl (WC.exit (E.jJ (E.jJ (E.ko (E.jG (Sq (WC.draw [0,2,3,1,4,5,6,7,8,9,10,11,12,13,14,15,16] mixed (by kernel_rfl) fun ak o=>?_))))))))
     have t:=(K.le (m.trans o))
     refine Gd rfl (.jK nU (by rfl) rfl t) ?_
     refine Ga rfl (.jE qA rfl) ?_
     have u:=(n.le o)
     refine Gd rfl (.jF (v:= .int .i64 ch.am) j5 rfl u rfl) (G.ef rfl rfl rfl rfl rfl (Ef.call aa0 rfl rfl (Q0 (s:=s) ak ⟨U,V⟩) ?_))
     rintro _ L ⟨rfl,b⟩
     refine⟨_,rfl,?_⟩
     refine⟨fun _=>b,?_⟩
     have N:=(((((((((((Le.refl w).trans aa).trans y).trans d).trans e).trans f).trans i).trans j).trans k).trans m).trans o).trans b
     refine Ga rfl (.dec (.eql rfl rfl) (dT htot)) (Gn 1 rfl ?_)
     by_cases ap:ch.op=0
     ·refine oJ rfl (.jE vF rfl) ?_
      have O:=(u.le b)
      refine uw rfl (.jF (v:= .int .i64 ch.op) j5 rfl O rfl) (oJ rfl (.jE lT rfl) (oJ rfl (.j3 0 underlying52 kz rfl rfl (by omega) (by omega)) ?_))
      have P:=(t.le b)
      refine uw rfl (.jF (v:= .int .i64 s.h0) j5 rfl P rfl) (uw rfl (.jK pU (by rfl) rfl O) ?_)
      refine uw rfl (.jK nU (by rfl) rfl P) ?_
      refine G.mY rfl rfl rfl rfl rfl rfl rfl rfl (Ef.call Yj rfl rfl (GA ch (s:=s) L hrt) ?_)
      rintro _ aq ⟨rfl,Q⟩
      refine⟨_,rfl,?_⟩
      refine⟨fun _=>Q,?_⟩
      refine Gn 3 rfl (G.nil (E.jG (Rt (E.jI rfl rfl ?_))))
      exact⟨rB (by rw[h_0 s (by assumption)]),(N.trans Q)⟩
     refine oJ rfl (.jE vF rfl) ?_
     have R:=(u.le b)
     refine uw rfl (.jF (v:= .int .i64 ch.op) j5 rfl R rfl) (oJ rfl (.jE lT rfl) (oJ rfl (.j3 1 underlying52 kz rfl rfl (by omega) (by omega)) ?_))
     have S:=(t.le b)
     refine uw rfl (.jF (v:= .int .i64 s.h1) j5 rfl S rfl) (uw rfl (.jK pU (by rfl) rfl R) ?_)
     refine uw rfl (.jK nU (by rfl) rfl S) ?_
     refine G.mY rfl rfl rfl rfl rfl rfl rfl rfl (Ef.call Yj rfl rfl (GA ch (s:=s) L hrt) ?_)
     rintro _ ar ⟨rfl,T⟩
     refine⟨_,rfl,?_⟩
     refine⟨fun _=>T,?_⟩
     refine Gn 3 rfl (G.nil (E.jG (Rt (E.jI rfl rfl ?_))))
     exact⟨rB (by rw[h_1 s (by assumption)]),(N.trans T)⟩
    refine Wa (.dec (.move rfl) (congrArg not (Bool.eq_false_iff.2 J))) rfl (Wn 5 rfl (Nx (WC.jS rfl (Sr (Wn 1 rfl (Nx (Rt (E.jH (E.jI rfl rfl ?_)))))))))
    exfalso;simp only[l8,decide_eq_true_eq]at*;omega
   refine Wa (.dec (.move rfl) (congrArg not (Bool.eq_false_iff.2 H))) rfl (Wn 11 rfl (Nx (WC.jS rfl (Sr (Wn 1 rfl (Nx (Rt (E.jH (E.jI rfl rfl ?_)))))))))
   exfalso;simp only[l8,decide_eq_true_eq]at*;omega
  refine Wa (.dec (.move rfl) (congrArg not (Bool.eq_false_iff.2 D))) rfl (Wn 18 rfl (Nx (WC.jS rfl (Sr (Wn 1 rfl (Nx (Rt (E.jH (E.jI rfl rfl ?_)))))))))
  exfalso;simp only[l8,decide_eq_true_eq]at*;omega
 refine Wa (.dec (.move rfl) (congrArg not (Bool.eq_false_iff.2 B))) rfl (Wn 25 rfl (Nx (WC.jS rfl (Sr (Wn 1 rfl (Nx (Rt (E.jH (E.jI rfl rfl ?_)))))))))
 exfalso;simp only[l8,decide_eq_true_eq]at*;omega
end Go.Proofs.YtcaehidaejhdfaaGreat

