/- LedgerSides: for every input the law answers true and leaves its arguments as they were. -/
import Derived.Test.YtkpmaajniagncaaGreatDoorLedgerSidesN
import Derived.Shelf.SlIterI.Nil
import Derived.Shelf.SortM.Plain
import Derived.Shelf.SortM.SortNone
import Derived.Ground.GgzProg
import Derived.Ground.SlgmProg
set_option linter.defProp false
set_option linter.unusedVariables false
set_option linter.unusedSimpArgs false
set_option maxRecDepth 20000
namespace Go.Proofs
open Go.Shelf
def Tryz.J8:Go.Shelf.Ren:=⟨fun|7=>51|10=>98|n=>n,fun|23=>126|26=>3|3=>52|28=>156|0=>0|27=>155|33=>131|4=>4|n=>n,fun|n=>n⟩
theorem Tryz.acH:Go.Proofs.SlLaysZI.n7 prog Tryz.J8:={
 mixed:=by kernel_rfl
 f7:=⟨Tryz.f51.name,by decide,func51.trans (congrArg some (by kernel_rfl))⟩
 f10:=⟨Tryz.f98.name,by decide,func98.trans (congrArg some (by kernel_rfl))⟩
 t0:=underlying0
 a0:=Tryz.isAgg0
 z0:=Tryz.sizeOf0
 v0:=Tryz.zeroValue0
 t4:=underlying4
 a4:=Tryz.isAgg4
 z4:=Tryz.sizeOf4
 v4:=Tryz.zeroValue4
 t23:=underlying126
 a23:=Tryz.isAgg126
 z23:=Tryz.sizeOf126
 v23:=Tryz.zeroValue126
 t26:=underlying3
 a26:=Tryz.isAgg3
 z26:=Tryz.sizeOf3
 v26:=Tryz.zeroValue3
 t27:=underlying155
 a27:=Tryz.isAgg155
 z27:=Tryz.sizeOf155
 v27:=Tryz.zeroValue155
 t28:=underlying156
 a28:=Tryz.isAgg156
 z28:=Tryz.sizeOf156
 v28:=Tryz.zeroValue156
 t33:=underlying131
 a33:=Tryz.isAgg131
 z33:=Tryz.sizeOf131
 v33:=Tryz.zeroValue131}
def Tryz.Fg:Go.Shelf.Ren:=⟨fun|6=>50|8=>96|9=>97|11=>146|13=>148|12=>147|23=>198|24=>199|14=>189|15=>190|16=>191|17=>192|18=>193|19=>194|20=>195|21=>196|22=>197|25=>220|26=>221|27=>222|28=>223|29=>224|30=>126|31=>242|n=>n,fun|26=>3|28=>156|24=>48|0=>0|3=>3|37=>259|48=>25|50=>53|4=>4|40=>290|39=>289|45=>123|5=>5|9=>9|51=>313|55=>317|57=>331|58=>148|33=>131|n=>n,fun|n=>n⟩
theorem Tryz.aaS:Go.Proofs.SlLaysZI.n6 prog Tryz.Fg:={
 mixed:=by kernel_rfl
 f6:=⟨Tryz.f50.name,by decide,func50.trans (congrArg some (by kernel_rfl))⟩
 f8:=⟨Tryz.f96.name,by decide,func96.trans (congrArg some (by kernel_rfl))⟩
 f11:=⟨Tryz.f146.name,by decide,func146.trans (congrArg some (by kernel_rfl))⟩
 t0:=underlying0
 a0:=Tryz.isAgg0
 z0:=Tryz.sizeOf0
 v0:=Tryz.zeroValue0
 t24:=underlying48
 a24:=Tryz.isAgg48
 z24:=Tryz.sizeOf48
 v24:=Tryz.zeroValue48
 t26:=underlying3
 a26:=Tryz.isAgg3
 z26:=Tryz.sizeOf3
 v26:=Tryz.zeroValue3
 t28:=underlying156
 a28:=Tryz.isAgg156
 z28:=Tryz.sizeOf156
 v28:=Tryz.zeroValue156
 i26:=by kernel_rfl}
def Tryz.Uu:Go.Shelf.Ren:=⟨fun|5=>97|8=>148|7=>147|19=>198|20=>199|10=>189|11=>190|12=>191|13=>192|14=>193|15=>194|16=>195|17=>196|18=>197|30=>220|31=>221|32=>222|33=>223|34=>224|35=>126|40=>242|n=>n,fun|23=>48|25=>3|3=>3|32=>259|22=>48|0=>0|44=>25|46=>53|4=>4|36=>290|35=>289|41=>123|5=>5|9=>9|53=>313|57=>317|63=>331|64=>148|n=>n,fun|n=>n⟩
theorem Tryz.acI:Go.Proofs.SlLaysM.n5 prog Tryz.Uu:={
 mixed:=by kernel_rfl
 f5:=⟨Tryz.f97.name,by decide,func97.trans (congrArg some (by kernel_rfl))⟩
 f7:=⟨Tryz.f147.name,by decide,func147.trans (congrArg some (by kernel_rfl))⟩
 f8:=func148.trans (congrArg some (by kernel_rfl))
 f10:=⟨Tryz.f189.name,by decide,func189.trans (congrArg some (by kernel_rfl))⟩
 f11:=⟨Tryz.f190.name,by decide,func190.trans (congrArg some (by kernel_rfl))⟩
 f12:=⟨Tryz.f191.name,by decide,func191.trans (congrArg some (by kernel_rfl))⟩
 f13:=⟨Tryz.f192.name,by decide,func192.trans (congrArg some (by kernel_rfl))⟩
 f14:=⟨Tryz.f193.name,by decide,func193.trans (congrArg some (by kernel_rfl))⟩
 f15:=⟨Tryz.f194.name,by decide,func194.trans (congrArg some (by kernel_rfl))⟩
 f16:=⟨Tryz.f195.name,by decide,func195.trans (congrArg some (by kernel_rfl))⟩
 f17:=⟨Tryz.f196.name,by decide,func196.trans (congrArg some (by kernel_rfl))⟩
 f18:=⟨Tryz.f197.name,by decide,func197.trans (congrArg some (by kernel_rfl))⟩
 f19:=func198.trans (congrArg some (by kernel_rfl))
 f20:=func199.trans (congrArg some (by kernel_rfl))
 f30:=⟨Tryz.f220.name,by decide,func220.trans (congrArg some (by kernel_rfl))⟩
 f31:=func221.trans (congrArg some (by kernel_rfl))
 f32:=func222.trans (congrArg some (by kernel_rfl))
 f33:=⟨Tryz.f223.name,by decide,func223.trans (congrArg some (by kernel_rfl))⟩
 f34:=⟨Tryz.f224.name,by decide,func224.trans (congrArg some (by kernel_rfl))⟩
 f35:=⟨Tryz.f126.name,by decide,func126.trans (congrArg some (by kernel_rfl))⟩
 f40:=⟨Tryz.f242.name,by decide,func242.trans (congrArg some (by kernel_rfl))⟩
 t0:=underlying0
 a0:=Tryz.isAgg0
 z0:=Tryz.sizeOf0
 v0:=Tryz.zeroValue0
 t3:=underlying3
 a3:=Tryz.isAgg3
 z3:=Tryz.sizeOf3
 v3:=Tryz.zeroValue3
 t4:=underlying4
 a4:=Tryz.isAgg4
 z4:=Tryz.sizeOf4
 v4:=Tryz.zeroValue4
 t5:=underlying5
 a5:=Tryz.isAgg5
 z5:=Tryz.sizeOf5
 v5:=Tryz.zeroValue5
 t9:=underlying9
 a9:=Tryz.isAgg9
 z9:=Tryz.sizeOf9
 v9:=Tryz.zeroValue9
 t22:=underlying48
 a22:=Tryz.isAgg48
 z22:=Tryz.sizeOf48
 v22:=Tryz.zeroValue48
 t23:=underlying48
 a23:=Tryz.isAgg48
 z23:=Tryz.sizeOf48
 v23:=Tryz.zeroValue48
 t25:=underlying3
 a25:=Tryz.isAgg3
 z25:=Tryz.sizeOf3
 v25:=Tryz.zeroValue3
 t32:=underlying259
 a32:=Tryz.isAgg259
 z32:=Tryz.sizeOf259
 v32:=Tryz.zeroValue259
 t35:=underlying289
 a35:=Tryz.isAgg289
 z35:=Tryz.sizeOf289
 v35:=Tryz.zeroValue289
 t36:=underlying290
 a36:=Tryz.isAgg290
 z36:=Tryz.sizeOf290
 v36:=Tryz.zeroValue290
 t41:=underlying123
 a41:=Tryz.isAgg123
 z41:=Tryz.sizeOf123
 v41:=Tryz.zeroValue123
 t44:=underlying25
 a44:=Tryz.isAgg25
 z44:=Tryz.sizeOf25
 v44:=Tryz.zeroValue25
 t46:=underlying53
 a46:=Tryz.isAgg53
 z46:=Tryz.sizeOf53
 v46:=Tryz.zeroValue53
 t53:=underlying313
 a53:=Tryz.isAgg313
 z53:=Tryz.sizeOf313
 v53:=Tryz.zeroValue313
 t57:=underlying317
 a57:=Tryz.isAgg317
 z57:=Tryz.sizeOf317
 v57:=Tryz.zeroValue317
 t63:=underlying331
 a63:=Tryz.isAgg331
 z63:=Tryz.sizeOf331
 v63:=Tryz.zeroValue331
 t64:=underlying148
 a64:=Tryz.isAgg148
 z64:=Tryz.sizeOf148
 v64:=Tryz.zeroValue148}
end Go.Proofs
namespace Go.Proofs.YtkpmaajniagncaaGreatDoor
open Tryz
open Go Go.Sx Go.Num Go.Gz Go.Lsp Go.RowKit Go.Maps Go.Sort Go.Shelf
theorem adK (m:Nat):AnyZI.SortsIn prog Tryz.Fg Fence.wide m:=
 ⟨fun blk off cap ss W hH hblk hsz=>callsIn_wide.2 (AnyM.slices_Sort_int Tryz.acI blk off cap ss W hH hblk hsz),
  fun p cap W=>callsIn_wide.2 (AnyM.slices_Sort_int_none Tryz.acI p cap W)⟩
theorem aaT (ga:Nat)(w:World):Calls prog 51 #[.map (some ga)] w fun r w'=>r= .returned (.func (.func 98) #[] #[.pointer (some ⟨w.heap.size,0,none⟩)])/\ik w' w.heap.size 126 #[.map (some ga)]/\Le w w':=by
 have h:=callsIn_wide.1 (AnyZI.keys_in Tryz.acH Fence.wide 5 trivial Z (some ga) w)
 refine Calls.mono h ?_
 rintro e w' ⟨rfl,rfl⟩
 exact⟨rfl,ik.new w _ _,(Below.refl _ w).alloc (Nat.le_refl _) _⟩
def inI (x:Int):Prop:= -9223372036854775808<=x/\x<=9223372036854775807
theorem adL {x:Int}(h:inI x):(Lit.int .i64 x).wf=true:=by
 unfold inI at h
 have c:IntKind.i64.min= -9223372036854775808:=by decide
 have d:IntKind.i64.max=9223372036854775807:=by decide
 simp only[Lit.wf,c,d,decide_eq_true_eq,Bool.and_eq_true]
 omega
abbrev noR:Value->Option (DataW Unit×List MemPlace):=fun _=>some (.nil,[])
def mapD (la:List (Nat×Int×Seat)):DataW Unit:= .map ((la.map fun x=>(Lit.int .i64 x.2.1,(DataW.nil:DataW Unit))).foldr DataW.insert [])
theorem R5 {x:Nat×Int×Seat}(h:inI x.2.1):Go.WideElems.rd prog 3 noR (lv uu mJ x)=some (Lit.int .i64 x.2.1,.nil):=by
 have hk:keyOf prog 3 (Value.int .i64 x.2.1)=some (Lit.int .i64 x.2.1):=by
  unfold keyOf
  rw[underlying3]
  simp[mapKey,underlying3,adL h]
 unfold Go.WideElems.rd
 simp only[lv,uu,hk]
 rfl
variable {ga ca:Nat}{la:List (Nat×Int×Seat)}{w:World}
theorem adM (hM:jk w uu mJ ga la ca)(hr:∀x∈la,inI x.2.1)(hl:la.length<=1000000):w.ownsMap prog 3 noR ga la.length (mapD la):=by
 refine⟨_,_,hM.1,⟨by simp;unfold maxLen;omega,⟨?_,?_,?_⟩,?_⟩,by simp,?_⟩
 ·intro x hx
  simp only[List.mem_map]at hx
  obtain⟨y,hy,rfl⟩:=hx
  exact hM.2.old y hy
 ·have:=hM.2.Hg
  simpa[List.map_map,Function.comp_def,lv]using this
 ·have h:=hM.2.keys
  have e:(la.map (lv uu mJ)).map (fun x=>x.key)=(la.map fun x=>x.2.1).map uu:=by simp[List.map_map,Function.comp_def,lv]
  simp only
  rw[e]
  exact List.Pairwise.map _ (fun a b hab he=>hab (by simpa[uu]using he)) h
 ·intro x hx
  simp only[List.mem_map]at hx
  obtain⟨y,hy,rfl⟩:=hx
  exact⟨_,R5 (hr y hy)⟩
 ·unfold mapD
  congr 2
  simp only[List.map_map]
  apply List.map_congr_left
  intro x hx
  simp only[Function.comp,Go.WideElems.rg,R5 (hr x hx)]
  rfl
theorem J9 (la:List (Nat×Int×Seat)):Maps.size (mapD la)=la.length:=by
 unfold mapD
 rw[Maps.size_eq,(Go.WideShapes.sorted_perm _).length_eq]
 simp
theorem Uv (la:List (Nat×Int×Seat)):(intKeys (mapD la)).Perm (la.map fun x=>x.2.1):=by
 unfold mapD intKeys
 refine((Go.WideShapes.sorted_perm _).map _).trans ?_
 rw[List.map_map]
 exact List.Perm.refl _
theorem Uw {gk:Nat}(w:World)(hB:ik w gk 126 #[.map (some ga)])(hM:jk w uu mJ ga la ca)(hr:∀x∈la,inI x.2.1)(hl:la.length<=1000000):
  Calls prog 50 #[.func (.func 98) #[] #[.pointer (some ⟨gk,0,none⟩)]] w fun r w'=>∃(A:Option Addr) (c:Nat) (ns:List Int),r= .returned (.slice A la.length c)/\ns.Perm (la.map fun x=>x.2.1)/\ns.Pairwise (· <= ·)/\iy w' w.heap.size 3 iv 1 A la.length c ns/\Le w w':=by
 have hown:=adM hM hr hl
 have hseq:SeqGives Fence.wide 2 prog 98 #[.pointer (some ⟨gk,0,none⟩)] encZ (fun ss=>ss.Perm (intKeys (mapD la))) (Maps.size (mapD la)) w:=
  AnyZI.keys_gives (ρ:=Tryz.J8) {Tryz.acH with} Fence.wide _ trivial Z (by omega) gk ga la.length (mapD la) _ hB.lt (by unfold World.cell?;rw[show w.heap[gk]? =_ from hB];rfl) hown
 have cS:=AnyZI.sorted_in Tryz.aaS Fence.wide 5 trivial trivial trivial trivial Z (by omega) (adK _) (enters_of func97 (by kernel_rfl) Z) 98 #[.pointer (some ⟨gk,0,none⟩)] trivial (enters_of func98 (by kernel_rfl) Z) _ _ (by rw[J9];unfold maxLen;omega) (by rw[J9];omega) _ hseq
 change CallsIn _ _ prog 50 _ _ _ at cS
 refine Calls.mono (callsIn_wide.1 cS) ?_
 rintro e w' ⟨v,ss,rfl,hS,hrow,hnil,hb⟩
 have hp:ss.Perm (la.map fun x=>x.2.1):=hS.trans (Uv la)
 have hlen:ss.length=la.length:=by rw[hp.length_eq,List.length_map]
 have hms:(ss.mergeSort (fun x y=>decide (x<=y))).Perm (la.map fun x=>x.2.1):=(List.mergeSort_perm _ _).trans hp
 have hpw:(ss.mergeSort (fun x y=>decide (x<=y))).Pairwise (· <= ·):=by
  have:=List.pairwise_mergeSort (le:=fun x y:Int=>decide (x<=y)) (by intro a b c;simp;omega) (by intro a b;simp;omega) ss
  exact this.imp (by intro a b h;simpa using h)
 obtain⟨d,f⟩:=hrow
 rcases f with⟨rfl,i⟩|⟨g,cap,cur,rfl,hg,hc,hn,hm,hz,ht⟩
 ·have j:la.length=0:=by omega
  have k:ss=[]:=List.length_eq_zero_iff.1 i
  subst k
  rw[j]
  exact⟨none,0,[],rfl,by simpa using hms,List.Pairwise.nil,iy.nil _ _ _ _ _ _,hb⟩
 ·rw[hlen]at d hn ht ⊢
  exact⟨some ⟨g,0,none⟩,cap,_,rfl,hms,hpw,Own.j4 ⟨d,.inr ⟨g,cur,rfl,hg,hc,hn,hm,hz,ht⟩⟩,hb⟩
def Bn (ls:SM)(k:Int):Seat:=(iO k ls).getD iB
variable {ls:SM}{k:Nat}
theorem Ik {ns:List Int}(h:k<ns.length):(ns.take k).map (Bn ls)++[Bn ls (ns.getD k 0)]=(ns.take (k+1)).map (Bn ls):=by
 rw[List.take_add_one,jN ns 0 h,List.map_append]
 rfl
variable {gp gs c ck:Nat}{A:Option Addr}{lh:HM}{lost:Int}
theorem Ux {gh cs:Nat}{own:List Int}(w:World)(hL:mr w gp gs gh A c cs ck own ls lh lost)(hr:∀x∈ls,inI x.2.1)(hl:ls.length<=1000000):Calls prog 24 #[.pointer (some ⟨gp,0,none⟩)] w fun r w'=>∃(A':Option Addr) (c':Nat) (ns:List Int),r= .returned (.slice A' ls.length c')/\ns.Perm (ls.map fun x=>x.2.1)/\ns.Pairwise (· <= ·)/\iy w' w.heap.size 52 iV 5 A' ls.length c' (ns.map (Bn ls))/\Le w w':=by
 refine En func24 Z ?_
 have Q:=Le.refl w
 refine Rn 1 Z (Rn 1 Z (Sq (Rr 3 Z (Yk (.map (some gs)) Z (hL.hp.le Q) Z (Yd Z (aaT gs w) ?_)))))
 rintro _ I ⟨rfl,af,n⟩
 have R:=Q.trans n
 refine Yd Z (Uw I af (hL.hS.le R) hr hl) ?_
 rintro _ o ⟨S,U,e,rfl,ah,ai,j,l⟩
 have m:=R.trans l
 refine Yx 2 Z (Bk (WC.loop (ι:=Nat×(Option Addr)×Nat) (fun⟨k,Ab,cb⟩=>[(0,.pointer (some ⟨gp,0,none⟩)),(3,.slice Ab k cb),(11,.slice S ls.length U),(12,J (ls.length:Int)),(13,J (k:Int))]) (fun⟨k,Ab,cb⟩ d=>(k<=ls.length)/\Le w d/\o.heap.size<=d.heap.size/\jk d uu mJ gs ls cs/\jk d Ff pY gh lh ck/\iy d o.heap.size 52 iV 5 Ab k cb ((e.take k).map (Bn ls))/\iy d I.heap.size 3 iv 1 S ls.length U e) (fun⟨k,Ab,cb⟩=>ls.length-k) (0,none,0) ?_ ?_ ?_))
 ·exact .of Z
 ·exact⟨Nat.zero_le _,m,Nat.le_refl _,(hL.hS.le m),(hL.hH.le m),(iy.nil o o.heap.size 52 iV 5 none),j⟩
 rintro⟨k,Ab,cb⟩ d ⟨hk,C,V,D,X,K,L⟩
 have Y:o.heap.size<=d.heap.size:=by omega
 have _:=l.size
 have ax:I.heap.size<=d.heap.size:=by omega
 have hnl:=j.1
 refine Rn 1 Z (Sq ?_)
 by_cases c0:(k:Int)<(ls.length:Int)
 ·refine Cy Z (dT c0) (Nb (Sr (Ys k Z (j.vec.isSome iQ (by omega)) (Wr (.o9 (v:= J (e.getD k 0)) yH Z L.vec iQ (jN e 0 (by omega)) Z) Z (Yx 1 Z (Rg (Yn 4 Z (Yk (.map (some gs)) Z (hL.hp.le C) Z (Yn 1 Z ?_)))))))))
  rcases optG (iO (e.getD k 0) ls)with s|⟨N,s⟩
  ·refine Wr (.as (.vK (key:=(e.getD k 0)) underlying126 qG z52 Z Z D) (by rw[s]<;>rfl)) Z (W.ef Z Z Z (Ef.iw (len:=1) [_] underlying102 PX Z (by simp[Value.cells,mJ,iI.len]) Z (by decide) (by decide) ?_))
   intro aa ac aj F f
   have F:ik ac aa 52 (([iB]).map iV).flatten.toArray:=F
   have ay:iy ac d.heap.size 52 iV 5 (some ⟨aa,0,none⟩) 1 1 ([iB]):=F.j4 aj iI Z Z (by decide)
   have t:=(K.le f)
   refine W.ef Z Z Z (Ef.vJ (a:=iB) underlying102 PX underlying102 iI Z t Z F (by omega) (by unfold maxLen;omega) (by have:=Y;have:=f.size;omega) ?_)
   intro ak al az an u aA
   refine Yn 1 Z (W.nil (Lp 1 Z Z ?_))
   have _:=n.size
   have f6:=((D.le f).ch u (t.rl (by have:=hL.hS.lt;omega)))
   have f7:=((X.le f).ch u (t.rl (by have:=hL.hH.lt;omega)))
   have f8:=((L.le f).ch u (Apart.symm (fun q O P=>by have:=(j.row O).2;have:=(t.row P).1;omega)))
   refine E.again (k+1,ak,al) (.of Z) ?_ ?_
   ·exact⟨by omega,((C.trans f).ja u (fun q hq=>Nat.le_trans m.size (t.row hq).1)),by have:=V;have:=f.size;have:=u.size;omega,f6,f7,(an.cast Z (by rw[<-Ik (by omega)];unfold Bn;first|rfl|(rw[s];rfl))),f8⟩
   first|omega|(simp only[];omega)
  refine Wr (.as (.vK (key:=(e.getD k 0)) underlying126 qG z52 Z Z D) (by rw[s]<;>rfl)) Z (W.ef Z Z Z (Ef.iw (len:=1) [_] underlying102 PX Z (by simp[Value.cells,mJ,iI.len]) Z (by decide) (by decide) ?_))
  intro ad ae ao H i
  have H:ik ae ad 52 (([N]).map iV).flatten.toArray:=H
  have aB:iy ae d.heap.size 52 iV 5 (some ⟨ad,0,none⟩) 1 1 ([N]):=H.j4 ao iI Z Z (by decide)
  have y:=(K.le i)
  refine W.ef Z Z Z (Ef.vJ (a:=N) underlying102 PX underlying102 iI Z y Z H (by omega) (by unfold maxLen;omega) (by have:=Y;have:=i.size;omega) ?_)
  intro ap aq aC ar B aD
  refine Yn 1 Z (W.nil (Lp 1 Z Z ?_))
  have _:=n.size
  have au:=((D.le i).ch B (y.rl (by have:=hL.hS.lt;omega)))
  have av:=((X.le i).ch B (y.rl (by have:=hL.hH.lt;omega)))
  have aw:=((L.le i).ch B (Apart.symm (fun q O P=>by have:=(j.row O).2;have:=(y.row P).1;omega)))
  refine E.again (k+1,ap,aq) (.of Z) ?_ ?_
  ·exact⟨by omega,((C.trans i).ja B (fun q hq=>Nat.le_trans m.size (y.row hq).1)),by have:=V;have:=i.size;have:=B.size;omega,au,av,(ar.cast Z (by rw[<-Ik (by omega)];unfold Bn;first|rfl|(rw[s];rfl))),aw⟩
  first|omega|(simp only[];omega)
 refine Cn Z (dF c0) (Ex (Ry 2 Z Z Z ?_))
 have hnl:=j.1;have ek:k=ls.length:=(by omega);have hq:=(K.mono m.size);rw[List.take_of_length_le (by omega)]at hq;subst ek;exact⟨_,_,_,rfl,ah,ai,hq,C⟩
theorem aaU (n:Int)(w:World):Calls prog 48 #[J (n)] w fun r w'=>r= .returned (.bool (!og n))/\Le w w':=by
 refine En func48 Z (Rn 1 Z (Rr 1 Z (Yc Z (tF n w) fun d c=>Yy 2 Z Z Z ?_)))
 exact⟨rfl,((Le.refl w).trans c)⟩
variable {Af:Option Addr}{nf cf:Nat}{fs:List Int}
theorem Uy (w:World)(hf:Vec w iv 1 Af nf fs)(hn:nf<=1000000):Calls prog 95 #[.slice Af nf cf,.func (.func 48) #[] #[]] w fun r w'=>∃z:Int,r= .returned (J z)/\((0<=z/\∃x∈fs,og x=false)\/(z= -1/\∀x∈fs,og x=true))/\Le w w':=by
 have hfn:=hf.1
 refine En func95 Z (Rn 1 Z (Sq (Rn 3 Z (Bk (WC.loop (ι:=Nat) (fun k=>[(0,.slice Af nf cf),(1,.func (.func 48) #[] #[]),(7,J (nf:Int)),(8,J (k:Int))]) (fun k c=>(k<=nf)/\(∀j,j<k->og (fs.getD j 0)=true)/\Le w c/\w.heap.size<=c.heap.size) (fun k=>nf-k) 0 ?_ ?_ ?_)))))
 ·exact .of Z
 ·exact⟨Nat.zero_le _,fun j hj=>by omega,(Le.refl w),Nat.le_refl _⟩
 rintro k c ⟨hk,hc,e,m⟩
 refine Rn 1 Z (Sq ?_)
 by_cases f:(k:Int)<(nf:Int)
 ·refine Cy Z (dT f) (Nb (Rn 2 Z (Rr 3 Z (Ys k Z (hf.isSome iQ (by omega)) (Wr (.o9 (v:= J (fs.getD k 0)) yH Z (hf.le e) iQ (jN fs 0 (by omega)) Z) Z (Yc Z (aaU (fs.getD k 0) c) fun n i=>?_))))))
  have l:=e.trans i
  refine Nx ?_
  by_cases d:(og (fs.getD k 0))=true
  ·refine Cn Z (congrArg not d) (WC.skip (Lp 1 Z Z (E.again (k+1) (.of Z) ?_ ?_)))
   ·exact⟨by omega,fun j hj=>(Nat.lt_succ_iff_lt_or_eq.1 hj).elim (hc j) (fun hh=>by subst hh;exact d),l,by have:=m;have:=i.size;omega⟩
   first|omega|(simp only[];omega)
  refine Cy Z (congrArg not (Bool.eq_false_iff.2 d)) (Rn 2 Z (Rt (E.jc (E.il (E.il (E.jc (E.il (E.iC Z Z ?_))))))))
  exact⟨_,rfl,.inl ⟨by omega,fs.getD k 0,List.mem_of_getElem? (jN fs 0 (by omega)),Bool.eq_false_iff.2 d⟩,l⟩
 refine Cn Z (dF f) (Ex (Ry 1 Z Z Z ?_))
 exact⟨_,rfl,.inr ⟨rfl,fun x hx=>by obtain⟨j,hj,rfl⟩:=List.getElem_of_mem hx;have:=hc j (by omega);rwa [List.getD_eq_getElem?_getD,List.getElem?_eq_getElem hj]at this⟩,e⟩
theorem Qg (w:World)(hf:Vec w iv 1 Af nf fs)(hn:nf<=1000000):Calls prog 47 #[.slice Af nf cf,.func (.func 48) #[] #[]] w fun r w'=>∃b:Bool,r= .returned (.bool b)/\(b=true↔∃x∈fs,og x=false)/\Le w w':=by
 refine En func47 Z ?_
 have d:=Le.refl w
 refine Rn 1 Z (Rr 2 Z (Yd Z (Uy w (hf.le d) (by omega)) ?_))
 rintro _ j ⟨k,rfl,f,i⟩
 refine Yy 2 Z Z Z ?_
 refine⟨_,rfl,?_,(d.trans i)⟩;rw[decide_eq_true_eq];rcases f with⟨e,c⟩|⟨e,c⟩;exact⟨fun _=>c,fun _=>e⟩;exact⟨fun h=>by omega,fun⟨x,hx,hh⟩=>by rw[c x hx]at hh;cases hh⟩
theorem Uz {Aa Ab:Option Addr}{na nb cb:Nat}{a b:List Int}(w:World)(ha:Vec w iv 1 Aa na a)(hb:Vec w iv 1 Ab nb b)(hn:na<=1000000):Calls prog 49 #[.slice Aa na ca,.slice Ab nb cb] w fun r w'=>r= .returned (.bool (decide (a=b)))/\Le w w':=by
 have han:=ha.1
 have hbn:=hb.1
 refine En func49 Z ?_
 have l:=Le.refl w
 refine Rn 1 Z (Sq (Rn 5 Z ?_))
 by_cases f:(na:Int)≠(nb:Int)
 ·refine Cy Z (dT f) (Rn 1 Z (Rt (E.il (E.iC Z Z ?_))))
  exact⟨by rw[dF (fun e=>f (by rw[<-han,<-hbn,e]))],l⟩
 refine Cn Z (dF f) (Sn (Sq (Rn 3 Z (Bk (WC.loop (ι:=Nat) (fun k=>[(0,.slice Aa na ca),(1,.slice Ab nb cb),(12,J (na:Int)),(13,J (k:Int))]) (fun k i=>(k<=na)/\(∀j,j<k->a.getD j 0=b.getD j 0)/\Le w i/\w.heap.size<=i.heap.size) (fun k=>na-k) 0 ?_ ?_ ?_)))))
 ·exact .of Z
 ·exact⟨Nat.zero_le _,fun j hj=>by omega,l,Nat.le_refl _⟩
 rintro k i ⟨hk,hs,m,s⟩
 refine Rn 1 Z (Sq ?_)
 by_cases n:(k:Int)<(na:Int)
 ·refine Cy Z (dT n) (Nb (Rn 2 Z (Sq (WC.draw [0,1,2,3,4,5,6,7,8] mixed (by kernel_rfl) fun t o=>?_))))
  have c:=m.trans o
  refine Xn 2 Z (Xs k Z (ha.isSome iQ (by omega)) (Gd Z (.o9 (v:= J (a.getD k 0)) yH Z (ha.le c) iQ (jN a 0 (by omega)) Z) (Xn 2 Z (Xs k Z (hb.isSome iQ (by omega)) (Gd Z (.o9 (v:= J (b.getD k 0)) yH Z (hb.le c) iQ (jN b 0 (by omega)) Z) (Xx 1 Z ?_))))))
  by_cases d:(a.getD k 0)≠(b.getD k 0)
  ·refine Cy Z (dT d) (Rn 1 Z (Rt (E.jc (E.il (E.il (E.jc (E.il (E.iC Z Z ?_))))))))
   exact⟨by rw[dF (fun e=>d (by rw[e]))],c⟩
  refine Cn Z (dF d) (WC.skip (Lp 1 Z Z (E.again (k+1) (.of Z) ?_ ?_)))
  ·exact⟨by omega,fun j hj=>(Nat.lt_succ_iff_lt_or_eq.1 hj).elim (hs j) (fun hh=>by subst hh;exact Classical.not_not.1 d),c,by have:=s;have:=o.size;omega⟩
  first|omega|(simp only[];omega)
 refine Cn Z (dF n) (Ex (Ry 1 Z Z Z ?_))
 exact⟨by rw[dT (V7 (z:=(0:Int)) (by omega) (fun j hj=>hs j (by omega)))],m⟩
theorem Il {P:Program}{f:Nat}{a:Array Value}{b0:Bool}{X:Bool->Prop}(h:Calls P f a w fun r w'=>∃b:Bool,r= .returned (.bool b)/\X b/\Le w w')(hb:∀b,X b->b=b0):Calls P f a w fun r w'=>r= .returned (.bool b0)/\Le w w':=h.mono (by rintro _ _ ⟨b,rfl,c,d⟩;rw[hb b c];exact⟨rfl,d⟩)
theorem aaV {l:List Int}(h:l.Nodup)(hk:k<l.length):l.getD k 0∉l.take k:=by
 have c:(l.take (k+1)).Nodup:=h.sublist (List.take_sublist _ _)
 rw[sQ (z:=0) hk]at c
 exact(xO.1 c).2
theorem XI {l:List Seat}(h:(chans l).Nodup)(hk:k<l.length):(l.getD k iB).ch∉chans (l.take k):=by
 have c:(chans (l.take (k+1))).Nodup:=h.sublist ((List.take_sublist _ _).map _)
 rw[Ht hk]at c
 exact(xO.1 c).2
theorem aaW {gh cs:Nat}{own:List Int}{Ao As:Option Addr}{no co ns cS:Nat}{old fee:List Int}{seats:List Seat}(w:World)(hL:mr w gp gs gh A c cs ck own ls lh lost)(hC:TC own.length ls lh old seats fee=0)(ho:Vec w iv 1 Ao no old)(hs:Vec w iV 5 As ns seats)(hf:Vec w iv 1 Af nf fee)(hno:no<=1000)(hns:ns<=1000)(hnf:nf<=1000)(hoa:∀q,lN Ao=some q->0<no->q<w.heap.size->¬LF gp gs gh A c q)(hsa:∀q,lN As=some q->0<ns->q<w.heap.size->¬LF gp gs gh A c q)(hfa:∀q,lN Af=some q->0<nf->q<w.heap.size->¬LF gp gs gh A c q)(hb:∀x∈lh,0<=x.2.2.am)(hq:∀ch side,jA lh ch side<=1125899906842624)(acJ:∀x∈ls,o7 own.length x.2.2)(hl:0<=lost/\lost<=1125899906842624):Calls prog 22 #[.pointer (some ⟨gp,0,none⟩),.slice Ao no co,.slice As ns cS,.slice Af nf cf] w fun r w'=>iX w w' (LF gp gs gh A c)/\r= .returned (J 0)/\mr w' gp gs gh A c (Hz ls cs old seats).2 ck own (Hz ls cs old seats).1 lh (lost+fee.sum):=by
 have a5:=hL.hp
 have a6:=hL.hO
 have a7:=hL.hS
 have a8:=hL.hH
 have n1:=hL.ps
 have n2:=hL.ph
 have n3:=hL.sh
 have n4:=hL.op
 have n5:=hL.os
 have n6:=hL.oh
 have hon:=ho.1
 have hsn:=hs.1
 have hfn:=hf.1
 obtain⟨hok,bG,cM,cN,hlf⟩:=adm hC
 have hfo:=hok.1.2.2
 refine En func22 Z ?_
 have L0:=iX.refl w (LF gp gs gh A c)
 refine Rn 1 Z (Sr (W.ef Z Z Z (Ef.wU uu Value.bool fun I eo cO a9 L=>?_)))
 have L1:=L0.le L
 refine W.ef Z Z Z (Ef.wU uu Value.bool fun aW cP cQ cR ae=>Yx 2 Z (Sq (Rn 3 Z (Bk ?_))))
 refine WC.loop (ι:=Nat×BM×Nat) (fun⟨k,lg,cg⟩=>[(0,.pointer (some ⟨gp,0,none⟩)),(1,.slice Ao no co),(2,.slice As ns cS),(3,.slice Af nf cf),(9,.map (some I)),(10,.map (some aW)),(38,.slice Ao no co),(39,J (no:Int)),(40,J (k:Int))]) (fun⟨k,lg,cg⟩ R=>(k<=no)/\(Marks lg (old.take k))/\iX w R (LF gp gs gh A c)/\cP.heap.size<=R.heap.size/\ik R gp 129 #[.slice A own.length c,.map (some gs),.map (some gh),J (lost)]/\iy R 0 3 iv 1 A own.length c own/\jk R uu mJ gs ls cs/\jk R Ff pY gh lh ck/\jk R uu Value.bool I lg cg/\jk R uu Value.bool aW ([]) 0) (fun⟨k,lg,cg⟩=>no-k) (0,[],0) ?_ ?_ ?_
 ·exact .of Z
 ·exact⟨Nat.zero_le _,Marks.nil,(L1.le ae),Nat.le_refl _,(a5.le (L.trans ae)),(a6.le (L.trans ae)),(a7.le (L.trans ae)),(a8.le (L.trans ae)),(a9.le ae),cR⟩
 rintro⟨k,lg,cg⟩ R ⟨hk,hmk,ba,aX,bb,bH,bI,bJ,bc,bK⟩
 refine Rn 1 Z (Sq ?_)
 by_cases c0:(k:Int)<(no:Int)
 ·refine Cy Z (dT c0) (Nb (Sr (Ys k Z (ho.isSome iQ (by omega)) (Wr (.o9 (v:= J (old.getD k 0)) yH Z (ho.ji ba hoa) iQ (jN old 0 (by omega)) Z) Z (Yx 1 Z (Rg (Yn 2 Z ?_)))))))
  rcases optG (iO (old.getD k 0) lg)with aY|⟨ep,aY⟩
  ·refine W.jR Z Z (Ef.Cb (key:=(old.getD k 0)) (u:=true) underlying151 qG Z Z Z bc aY fun cT cU av=>?_)
   have L8:iX w cT (LF gp gs gh A c):=ba.ch av (fun i hi hlt=>by cases hi;exact absurd hlt (by have:=L0.size;have:=cO;omega))
   refine W.nil (Lp 1 Z Z ?_)
   have f9:=(bb.cn av (by have:=a5.lt;omega))
   have cV:=(bH.cb av (a6.rn (by omega)))
   have cW:=(bI.cn av (by have:=a7.lt;omega))
   have cX:=(bJ.cn av (by have:=a8.lt;omega))
   have cY:=(bK.cn av (by have:=a9.lt;omega))
   refine E.again (k+1,(lg++[(cg,(old.getD k 0),true)]),(cg+1)) (.of Z) ?_ ?_
   ·exact⟨by omega,by rw[sQ (z:=0) (by omega)];exact hmk.new aY,L8,by have:=aX;have:=av.size;omega,f9,cV,cW,cX,cU,cY⟩
   first|omega|(simp only[];omega)
  exact absurd (hmk.val aY).2 (aaV hok.1.1 (by omega))
 refine Cn Z (dF c0) ?_
 have hmo:Marks lg old:=(by rw[List.take_of_length_le (by omega)]at hmk;exact hmk)
 have hnd:=hmo.2.2
 refine Ex (Rr 1 Z (Wr (.adk underlying151 Z bc) Z (Yq 3 Z (dF (by have h1:=hnd.2 hok.1.1;omega)) (Yq 4 Z (dF (by have h1:=hok.1.2.1;omega)) (Yn 7 Z (Yk (.slice A own.length c) Z bb Z (Yq 2 Z (dF (by have h1:=hok.1.2.2;omega)) (Yx 2 Z (Sq ?_)))))))))
 refine Rn 3 Z (Bk ?_)
 refine WC.loop (ι:=Nat×BM×Nat) (fun⟨k1,lc,cc⟩=>[(0,.pointer (some ⟨gp,0,none⟩)),(1,.slice Ao no co),(2,.slice As ns cS),(3,.slice Af nf cf),(9,.map (some I)),(10,.map (some aW)),(13,.bool false),(67,.slice As ns cS),(68,J (ns:Int)),(69,J (k1:Int))]) (fun⟨k1,lc,cc⟩ S=>(k1<=ns)/\(Marks lc (chans (seats.take k1)))/\iX w S (LF gp gs gh A c)/\R.heap.size<=S.heap.size/\ik S gp 129 #[.slice A own.length c,.map (some gs),.map (some gh),J (lost)]/\iy S 0 3 iv 1 A own.length c own/\jk S uu mJ gs ls cs/\jk S Ff pY gh lh ck/\jk S uu Value.bool I lg cg/\jk S uu Value.bool aW lc cc) (fun⟨k1,lc,cc⟩=>ns-k1) (0,[],0) ?_ ?_ ?_
 ·exact .of Z
 ·exact⟨Nat.zero_le _,Marks.nil,ba,Nat.le_refl _,bb,bH,bI,bJ,bc,bK⟩
 rintro⟨k1,lc,cc⟩ S ⟨er,hmc,aZ,a0,aA,aB,aC,aD,aE,cZ⟩
 refine Rn 1 Z (Sq ?_)
 by_cases c1:(k1:Int)<(ns:Int)
 ·refine Cy Z (dT c1) (Nb (Sr (Ys k1 Z (hs.isSome iI (by omega)) (Wr (.lX TP Z (hs.ji aZ hsa) iI (jN seats iB (by omega))) Z (W.ab Z z52 wu (iI.one (seats.getD k1 iB)) fun c2 bL es (bd:ik bL c2 52 (iV (seats.getD k1 iB)).toArray) aj=>Nx (Rr 4 Z (Yk (J ((seats.getD k1 iB).ch)) Z bd Z ?_)))))))
  rcases optG (iO ((seats.getD k1 iB).ch) lc)with aF|⟨et,aF⟩
  ·have bM:=(cZ.le aj)
   refine Wg (.as (.vK (key:=((seats.getD k1 iB).ch)) underlying151 qG z4 Z Z bM) (by rw[aF]<;>rfl)) Z (Yn 3 Z (Yh Z bd ?_))
   have bN:=(aA.le aj)
   have bO:=(aB.le aj)
   have bP:=(aC.le aj)
   have bQ:=(aD.le aj)
   refine Yc Z (Il (RV (seats.getD k1 iB) bL (mr.mk bN bO bP bQ n1 n2 n3 n4 n5 n6)) (fun b h=>h.2 (hok.2.1.2 _ (qO (z:=iB) (show k1<seats.length by omega))))) fun eu af=>?_
   have c4:=(aZ.le aj).le af
   refine Yx 3 Z (Rg (Yn 2 Z (Yk (J ((seats.getD k1 iB).ch)) Z (bd.le af) Z (W.jR Z Z (Ef.Cb (key:=((seats.getD k1 iB).ch)) (u:=true) underlying151 qG Z Z Z (bM.le af) aF fun c6 c8 aw=>?_)))))
   have da:iX w c6 (LF gp gs gh A c):=c4.ch aw (fun i hi hlt=>by cases hi;exact absurd hlt (by have:=L1.size;have:=cQ;omega))
   refine W.nil (Lp 1 Z Z ?_)
   have _:=L.size
   have db:=((bN.le af).cn aw (by have:=a5.lt;omega))
   have dc:=((bO.le af).cb aw (a6.rn (by omega)))
   have dd:=((bP.le af).cn aw (by have:=a7.lt;omega))
   have de:=((bQ.le af).cn aw (by have:=a8.lt;omega))
   have dg:=((aE.le (aj.trans af)).cn aw (by have:=a9.lt;omega))
   refine E.again (k1+1,(lc++[(cc,((seats.getD k1 iB).ch),true)]),(cc+1)) (.of Z) ?_ ?_
   ·exact⟨by omega,by rw[Ht (by omega)];exact hmc.new aF,da,by have:=a0;have:=aj.size;have:=af.size;have:=aw.size;omega,db,dc,dd,de,dg,c8⟩
   first|omega|(simp only[];omega)
  exact absurd (hmc.val aF).2 (XI hok.2.1.1 (by omega))
 refine Cn Z (dF c1) (Ex (Sq (Rr 3 Z (Yc Z (Il (Qg S (hf.ji aZ hfa) (by omega)) (fun b h=>Bool.eq_false_iff.2 (fun q=>by obtain⟨y,hy,e⟩:=h.1 q;rw[hok.2.2 y hy]at e;cases e))) fun U n=>?_))))
 have a1:=aZ.le n
 refine Yx 1 Z (Cf Z (Sn (Rr 2 Z (W.ef Z Z Z (Ef.aeY 0 nf underlying48 Je iQ Z Z Z Z Z (by omega) (by unfold maxLen;omega) ?_)))))
 intro V dh ew ax X
 refine Yx 1 Z (Rn 1 Z (Sq (Rn 3 Z (Bk ?_))))
 refine WC.loop (ι:=Nat) (fun k2=>[(0,.pointer (some ⟨gp,0,none⟩)),(1,.slice Ao no co),(2,.slice As ns cS),(3,.slice Af nf cf),(9,.map (some I)),(16,.slice (some ⟨V,0,none⟩) nf nf),(17,.bool false),(98,.slice Ao no co),(99,J (no:Int)),(100,J (k2:Int))]) (fun k2 N=>(k2<=no)/\iX w N (LF gp gs gh A c)/\dh.heap.size<=N.heap.size/\ik N gp 129 #[.slice A own.length c,.map (some gs),.map (some gh),J (lost)]/\iy N 0 3 iv 1 A own.length c own/\jk N uu mJ gs ls cs/\jk N Ff pY gh lh ck/\jk N uu Value.bool I lg cg/\iy N U.heap.size 3 iv 1 (some ⟨V,0,none⟩) nf nf (nL own.length ls (old.take k2))) (fun k2=>no-k2) 0 ?_ ?_ ?_
 ·exact .of Z
 ·exact⟨Nat.zero_le _,(a1.le X),Nat.le_refl _,(aA.le (n.trans X)),(aB.le (n.trans X)),(aC.le (n.trans X)),(aD.le (n.trans X)),(aE.le (n.trans X)),(ax.cast Z (by unfold nL;rw[show nf=own.length by omega];rfl))⟩
 rintro k2 N ⟨ex,be,bf,bg,bR,bi,bS,bT,bj⟩
 have _:=X.size
 have bU:U.heap.size<=N.heap.size:=by omega
 have hgb:=Rl acJ k2 (by omega) (fun i hi=>bG _ (qO (by omega)))
 refine Rn 1 Z (Sq ?_)
 by_cases c3:(k2:Int)<(no:Int)
 ·refine Cy Z (dT c3) (Nb (Sr (Ys k2 Z (ho.isSome iQ (by omega)) (Wr (.o9 (v:= J (old.getD k2 0)) yH Z (ho.ji be hoa) iQ (jN old 0 (by omega)) Z) Z (Yx 1 Z (Rr 3 Z (Yk (.map (some gs)) Z bg Z (Yn 1 Z ?_))))))))
  rcases optG (iO (old.getD k2 0) ls)with az|⟨m,az⟩
  ·obtain⟨tz,htz⟩:=bG _ (qO (z:=0) (show k2<old.length by omega));rw[htz]at az;cases az
  obtain⟨bh,Vt⟩:=pU az
  have hso:o7 own.length m:=acJ _ Vt
  refine Wr (.as (.mV (key:=(old.getD k2 0)) underlying126 qG z52 Z Z bi) (by rw[az]<;>rfl)) Z (Yn 1 Z (Wa (.extract (v:= .agg (iV m).toArray) Z Z) Z (Yn 1 Z (W.ab Z z52 wu (iI.one m) fun bk bV ey (di:ik bV bk 52 (iV m).toArray) ah=>Yx 1 Z (Sq (Rn 2 Z (Cf Z (Sn ?_))))))))
  refine Rr 4 Z ?_
  have bW:=(bg.le ah)
  have bX:=(bR.le ah)
  have bY:=(bi.le ah)
  have bZ:=(bS.le ah)
  refine Yc Z (by have q:=Oc (old.getD k2 0) bV (mr.mk bW bX bY bZ n1 n2 n3 n4 n5 n6) hb (hq _ 0) (hq _ 1);rw[dT (cM _ (qO (z:=0) (show k2<old.length by omega)))]at q;exact q) fun dj Y=>?_
  refine Yx 3 Z (Rr 1 Z ?_)
  have b0:=(di.le Y)
  refine Yb [J m.p0,J (m.p1)] Z b0 Z (Yx 1 Z (Bk ?_))
  refine WC.loop (ι:=Nat) (fun l=>[(0,.pointer (some ⟨gp,0,none⟩)),(1,.slice Ao no co),(2,.slice As ns cS),(3,.slice Af nf cf),(9,.map (some I)),(16,.slice (some ⟨V,0,none⟩) nf nf),(17,.bool false),(20,.pointer (some ⟨bk,0,none⟩)),(98,.slice Ao no co),(99,J (no:Int)),(100,J (k2:Int)),(123,.agg #[J m.p0,J (m.p1)]),(124,J (l:Int))]) (fun l O=>(l<=2)/\iX w O (LF gp gs gh A c)/\dj.heap.size<=O.heap.size/\ik O gp 129 #[.slice A own.length c,.map (some gs),.map (some gh),J (lost)]/\iy O 0 3 iv 1 A own.length c own/\jk O uu mJ gs ls cs/\jk O Ff pY gh lh ck/\jk O uu Value.bool I lg cg/\iy O U.heap.size 3 iv 1 (some ⟨V,0,none⟩) nf nf (lq (nL own.length ls (old.take k2)) m l)/\ik O bk 52 (iV m).toArray) (fun l=>2-l) 0 ?_ ?_ ?_
  ·exact .of Z
  ·exact⟨Nat.zero_le _,((be.le ah).le Y),Nat.le_refl _,(bW.le Y),(bX.le Y),(bY.le Y),(bZ.le Y),(bT.le (ah.trans Y)),(bj.le (ah.trans Y)),b0⟩
  rintro l O ⟨dk,b1,b2,b3,b4,b5,b6,b7,b8,dm⟩
  have _:=ah.size
  have _:=Y.size
  have ez:U.heap.size<=O.heap.size:=Nat.le_trans bU (by omega)
  have hpz:=hso.1
  have hab:=Gb hso.2.2.2.1 hso.2.2.2.2 hgb l dk
  refine Rn 1 Z (Sq ?_)
  by_cases c5:(l:Int)<2
  ·refine Cy Z (dT c5) (Nb (Rr 1 Z (Wa (.xQ (v:= J (m.p l)) l underlying35 nC yH Z Z Z (by omega) (zf m (by omega))) Z (Yx 2 Z (WC.draw [0,1,2,3,4,5,6,7,8,9,10] mixed (by kernel_rfl) fun eA ai=>?_)))))
   have dn:=b1.le ai
   refine Xn 2 Z (Ga Z (.MO ((m.p l).toNat) underlying48 nC Z Z (ax.vec.isSome iQ (by omega)) (by have:=(jH hso (k:=l) (by omega)).1;omega) (by have:=(jH hso (k:=l) (by omega)).1;omega)) ?_)
   have ak:=(b8.le ai)
   refine Gd Z (.o9 (v:= J ((lq (nL own.length ls (old.take k2)) m l).getD ((m.p l).toNat) 0)) yH Z ak.vec iQ (jN (lq (nL own.length ls (old.take k2)) m l) 0 (by rw[Ci,uK];have:=(jH hso (k:=l) (by omega)).1;omega)) Z) (Xn 2 Z (Xi l Z ?_))
   have b9:=(dm.le ai)
   refine Xk (J (m.h l)) Z b9 (nX m (by omega)) (Ga Z (.add Z Z (by have:=hab (m.p l).toNat;have:=(jH hso (k:=l) (by omega)).2;omega)) (Ga Z (.MO ((m.p l).toNat) underlying48 nC Z Z (ax.vec.isSome iQ (by omega)) (by have:=(jH hso (k:=l) (by omega)).1;omega) (by have:=(jH hso (k:=l) (by omega)).1;omega)) (G.jR Z Z Z Z (Ef.Tv (j:=(m.p l).toNat) (o:=0) (((lq (nL own.length ls (old.take k2)) m l).getD ((m.p l).toNat) 0)+(m.h l)) nC Z (by omega) Z ak iQ (jN (lq (nL own.length ls (old.take k2)) m l) 0 (by rw[Ci,uK];have:=(jH hso (k:=l) (by omega)).1;omega)) (by decide) Z Z ?_))))
   intro dp dq al
   refine noT (by kernel_rfl) ?_
   have dr:iX w dp (LF gp gs gh A c):=dn.ch al (fun i hi hlt=>absurd hlt (by have:=(ak.row hi).1;have:=a1.size;omega))
   refine G.nil (Lp 1 Z Z ?_)
   have _:=n.size
   have ds:=((b3.le ai).ch al (ak.rl (by have:=aA.lt;omega)))
   have du:=((b4.le ai).ch al (Apart.symm (fun q h1 h2=>by have:=(aB.row h1).2;have:=(ak.row h2).1;omega)))
   have dw:=((b5.le ai).ch al (ak.rl (by have:=aC.lt;omega)))
   have dx:=((b6.le ai).ch al (ak.rl (by have:=aD.lt;omega)))
   have dy:=((b7.le ai).ch al (ak.rl (by have:=aE.lt;omega)))
   have dz:=(b9.ch al (bj.rn (by omega)))
   refine E.again (l+1) (.of Z) ?_ ?_
   ·exact⟨by omega,dr,by have:=b2;have:=ai.size;have:=al.size;omega,ds,du,dw,dx,dy,dq,dz⟩
   first|omega|(simp only[];omega)
  refine Cn Z (dF c5) (WC.exit (E.jW (E.jW (E.rQ (Lp 1 Z Z (E.again (k2+1) (.of Z) ?_ ?_))))))
  ·exact⟨by omega,b1,by have:=bf;have:=aX;have:=a0;have:=b2;have:=L.size;have:=ae.size;have:=n.size;omega,b3,b4,b5,b6,b7,(b8.cast Z (by have e3:l=2:=(by omega);rw[e3,Hu (by omega)];unfold rW;rw[az];rfl))⟩
  first|omega|(simp only[];omega)
 refine Cn Z (dF c3) ?_
 have cd:=hgb
 rw[List.take_of_length_le (by omega)]at cd
 refine Ex (Sq (Rn 1 Z (Cf Z (Sn (Sq (Rn 3 Z (Bk ?_)))))))
 refine WC.loop (ι:=Nat) (fun d=>[(0,.pointer (some ⟨gp,0,none⟩)),(1,.slice Ao no co),(2,.slice As ns cS),(3,.slice Af nf cf),(9,.map (some I)),(16,.slice (some ⟨V,0,none⟩) nf nf),(141,.slice As ns cS),(142,J (ns:Int)),(143,J (d:Int))]) (fun d P=>(d<=ns)/\iX w P (LF gp gs gh A c)/\N.heap.size<=P.heap.size/\ik P gp 129 #[.slice A own.length c,.map (some gs),.map (some gh),J (lost)]/\iy P 0 3 iv 1 A own.length c own/\jk P uu mJ gs ls cs/\jk P Ff pY gh lh ck/\jk P uu Value.bool I lg cg/\iy P U.heap.size 3 iv 1 (some ⟨V,0,none⟩) nf nf (qB (nL own.length ls old) (seats.take d))) (fun d=>ns-d) 0 ?_ ?_ ?_
 ·exact .of Z
 ·exact⟨Nat.zero_le _,be,Nat.le_refl _,bg,bR,bi,bS,bT,(bj.cast Z (by rw[List.take_of_length_le (by omega)];rfl))⟩
 rintro d P ⟨eB,a2,ce,ci,bl,bm,bn,cj,aG⟩
 have cm:U.heap.size<=P.heap.size:=Nat.le_trans bU (by omega)
 have hcb:=Rm hok.2.1.2 cd d (by omega)
 refine Rn 1 Z (Sq ?_)
 by_cases c7:(d:Int)<(ns:Int)
 ·refine Cy Z (dT c7) (Nb (Sr (Ys d Z (hs.isSome iI (by omega)) (Wr (.lX TP Z (hs.ji a2 hsa) iI (jN seats iB (by omega))) Z (W.ab Z z52 wu (iI.one (seats.getD d iB)) fun aH dA eC (dB:ik dA aH 52 (iV (seats.getD d iB)).toArray) F=>Nx (Sq (Sq (WC.draw [0,1,2,3,4,5,6,7,8,9,10,11,12] mixed (by kernel_rfl) fun eD D=>?_))))))))
  have cp:=(a2.le F).le D
  refine Xn 3 Z ?_
  have bo:=(ci.le (F.trans D))
  refine Xk (.map (some gs)) Z bo Z (Xn 1 Z ?_)
  have bp:=(dB.le D)
  refine Xk (J ((seats.getD d iB).ch)) Z bp Z ?_
  rcases optG (iO ((seats.getD d iB).ch) ls)with a3|⟨bq,a3⟩
  ·have cq:=(bm.le (F.trans D))
   refine Gd Z (.as (.mV (key:=((seats.getD d iB).ch)) underlying126 qG z52 Z Z cq) (by rw[a3]<;>rfl)) (Xn 1 Z (Ga Z (.extract (v:= .agg (iV iB).toArray) Z Z) (Xn 1 Z (G.ab Z Z Z z52 wu (iI.one iB) fun eE dC eF eG aa=>Xx 1 Z (Rn 8 Z (Cf Z (Sn (Rr 1 Z ?_))))))))
   have cr:=(bp.le aa)
   refine Yb [J ((seats.getD d iB).p0),J ((seats.getD d iB).p1)] Z cr Z (Yx 1 Z (Bk ?_))
   refine WC.loop (ι:=Nat) (fun f=>[(0,.pointer (some ⟨gp,0,none⟩)),(1,.slice Ao no co),(2,.slice As ns cS),(3,.slice Af nf cf),(9,.map (some I)),(16,.slice (some ⟨V,0,none⟩) nf nf),(25,.pointer (some ⟨aH,0,none⟩)),(141,.slice As ns cS),(142,J (ns:Int)),(143,J (d:Int)),(166,.agg #[J ((seats.getD d iB).p0),J ((seats.getD d iB).p1)]),(167,J (f:Int))]) (fun f s=>(f<=2)/\iX w s (LF gp gs gh A c)/\dC.heap.size<=s.heap.size/\ik s gp 129 #[.slice A own.length c,.map (some gs),.map (some gh),J (lost)]/\iy s 0 3 iv 1 A own.length c own/\jk s uu mJ gs ls cs/\jk s Ff pY gh lh ck/\jk s uu Value.bool I lg cg/\iy s U.heap.size 3 iv 1 (some ⟨V,0,none⟩) nf nf (vZ (qB (nL own.length ls old) (seats.take d)) (seats.getD d iB) f)/\ik s aH 52 (iV (seats.getD d iB)).toArray) (fun f=>2-f) 0 ?_ ?_ ?_
   ·exact .of Z
   ·exact⟨Nat.zero_le _,(cp.le aa),Nat.le_refl _,(bo.le aa),(bl.le (F.trans (D.trans aa))),(cq.le aa),(bn.le (F.trans (D.trans aa))),(cj.le (F.trans (D.trans aa))),(aG.le (F.trans (D.trans aa))),cr⟩
   rintro f s ⟨bs,aI,aJ,aK,aL,aM,aN,aO,aP,bt⟩
   have _:=F.size
   have _:=D.size
   have _:=aa.size
   have dD:U.heap.size<=s.heap.size:=Nat.le_trans cm (by omega)
   have B:=Wx (hok.2.1.2 _ (qO (z:=iB) (show d<seats.length by omega)))
   have hpz:=B.1
   have hab:=Cj B.2.2.2.1 B.2.2.2.2 hcb f bs
   refine Rn 1 Z (Sq ?_)
   by_cases c9:(f:Int)<2
   ·refine Cy Z (dT c9) (Nb (Rr 1 Z (Wa (.xQ (v:= J ((seats.getD d iB).p f)) f underlying35 nC yH Z Z Z (by omega) (zf (seats.getD d iB) (by omega))) Z (Yx 2 Z (WC.draw [0,1,2,3,4,5,6,7,8,9,10] mixed (by kernel_rfl) fun dE C=>?_)))))
    have dG:=aI.le C
    refine Xn 2 Z (Ga Z (.MO (((seats.getD d iB).p f).toNat) underlying48 nC Z Z (ax.vec.isSome iQ (by omega)) (by have:=(jH B (k:=f) (by omega)).1;omega) (by have:=(jH B (k:=f) (by omega)).1;omega)) ?_)
    have an:=(aP.le C)
    refine Gd Z (.o9 (v:= J ((vZ (qB (nL own.length ls old) (seats.take d)) (seats.getD d iB) f).getD (((seats.getD d iB).p f).toNat) 0)) yH Z an.vec iQ (jN (vZ (qB (nL own.length ls old) (seats.take d)) (seats.getD d iB) f) 0 (by rw[wW,zQ,uK];have:=(jH B (k:=f) (by omega)).1;omega)) Z) (Xn 2 Z (Xi f Z ?_))
    have ct:=(bt.le C)
    refine Xk (J ((seats.getD d iB).h f)) Z ct (nX (seats.getD d iB) (by omega)) (Ga Z (.sub Z Z (by have:=hab ((seats.getD d iB).p f).toNat;have:=(jH B (k:=f) (by omega)).2;omega)) (Ga Z (.MO (((seats.getD d iB).p f).toNat) underlying48 nC Z Z (ax.vec.isSome iQ (by omega)) (by have:=(jH B (k:=f) (by omega)).1;omega) (by have:=(jH B (k:=f) (by omega)).1;omega)) (G.jR Z Z Z Z (Ef.Tv (j:=((seats.getD d iB).p f).toNat) (o:=0) (((vZ (qB (nL own.length ls old) (seats.take d)) (seats.getD d iB) f).getD (((seats.getD d iB).p f).toNat) 0)-((seats.getD d iB).h f)) nC Z (by omega) Z an iQ (jN (vZ (qB (nL own.length ls old) (seats.take d)) (seats.getD d iB) f) 0 (by rw[wW,zQ,uK];have:=(jH B (k:=f) (by omega)).1;omega)) (by decide) Z Z ?_))))
    intro dH dI ao
    refine noT (by kernel_rfl) ?_
    have dJ:iX w dH (LF gp gs gh A c):=dG.ch ao (fun i hi hlt=>absurd hlt (by have:=(an.row hi).1;have:=a1.size;omega))
    refine G.nil (Lp 1 Z Z ?_)
    have _:=n.size
    have dK:=((aK.le C).ch ao (an.rl (by have:=aA.lt;omega)))
    have dL:=((aL.le C).ch ao (Apart.symm (fun q h1 h2=>by have:=(aB.row h1).2;have:=(an.row h2).1;omega)))
    have dM:=((aM.le C).ch ao (an.rl (by have:=aC.lt;omega)))
    have dN:=((aN.le C).ch ao (an.rl (by have:=aD.lt;omega)))
    have dO:=((aO.le C).ch ao (an.rl (by have:=aE.lt;omega)))
    have dP:=(ct.ch ao (aG.rn (by omega)))
    refine E.again (f+1) (.of Z) ?_ ?_
    ·exact⟨by omega,dJ,by have:=aJ;have:=C.size;have:=ao.size;omega,dK,dL,dM,dN,dO,dI,dP⟩
    first|omega|(simp only[];omega)
   refine Cn Z (dF c9) (WC.exit (E.jW (E.jW (E.rQ (Lp 1 Z Z (E.again (d+1) (.of Z) ?_ ?_))))))
   ·exact⟨by omega,aI,by have:=ce;have:=aX;have:=a0;have:=bf;have:=aJ;have:=L.size;have:=ae.size;have:=n.size;omega,aK,aL,aM,aN,aO,(aP.cast Z (by have e5:f=2:=(by omega);rw[e5,Bj (by omega)]))⟩
   first|omega|(simp only[];omega)
  have cu:=(bm.le (F.trans D))
  refine Gd Z (.as (.mV (key:=((seats.getD d iB).ch)) underlying126 qG z52 Z Z cu) (by rw[a3]<;>rfl)) (Xn 1 Z (Ga Z (.extract (v:= .agg (iV bq).toArray) Z Z) (Xn 1 Z (G.ab Z Z Z z52 wu (iI.one bq) fun dQ cv eH (eI:ik cv dQ 52 (iV bq).toArray) ac=>Xx 1 Z (Rr 4 Z ?_)))))
  have bu:=(bp.le ac)
  refine Yk (J ((seats.getD d iB).ch)) Z bu Z ?_
  rcases optG (iO ((seats.getD d iB).ch) lg)with a4|⟨eJ,a4⟩
  ·exact absurd (cN _ (qO (z:=iB) (show d<seats.length by omega))) (fun q=>q.elim (fun q=>by rw[a3]at q;cases q) (hmo.not a4))
  have cw:=(cj.le (F.trans (D.trans ac)))
  refine Wg (.as (.vK (key:=((seats.getD d iB).ch)) underlying151 qG z4 Z Z cw) (by rw[a4]<;>rfl)) Z (Yx 2 Z (Cn Z (congrArg not ((hmo.val a4).1)) (Sn (Rr 1 Z (Yb [J ((seats.getD d iB).p0),J ((seats.getD d iB).p1)] Z bu Z (Yx 1 Z (Bk ?_)))))))
  refine WC.loop (ι:=Nat) (fun f=>[(0,.pointer (some ⟨gp,0,none⟩)),(1,.slice Ao no co),(2,.slice As ns cS),(3,.slice Af nf cf),(9,.map (some I)),(16,.slice (some ⟨V,0,none⟩) nf nf),(25,.pointer (some ⟨aH,0,none⟩)),(141,.slice As ns cS),(142,J (ns:Int)),(143,J (d:Int)),(166,.agg #[J ((seats.getD d iB).p0),J ((seats.getD d iB).p1)]),(167,J (f:Int))]) (fun f s=>(f<=2)/\iX w s (LF gp gs gh A c)/\cv.heap.size<=s.heap.size/\ik s gp 129 #[.slice A own.length c,.map (some gs),.map (some gh),J (lost)]/\iy s 0 3 iv 1 A own.length c own/\jk s uu mJ gs ls cs/\jk s Ff pY gh lh ck/\jk s uu Value.bool I lg cg/\iy s U.heap.size 3 iv 1 (some ⟨V,0,none⟩) nf nf (vZ (qB (nL own.length ls old) (seats.take d)) (seats.getD d iB) f)/\ik s aH 52 (iV (seats.getD d iB)).toArray) (fun f=>2-f) 0 ?_ ?_ ?_
  ·exact .of Z
  ·exact⟨Nat.zero_le _,(cp.le ac),Nat.le_refl _,(bo.le ac),(bl.le (F.trans (D.trans ac))),(cu.le ac),(bn.le (F.trans (D.trans ac))),cw,(aG.le (F.trans (D.trans ac))),bu⟩
  rintro f s ⟨bs,aI,aJ,aK,aL,aM,aN,aO,aP,bt⟩
  have _:=F.size
  have _:=D.size
  have _:=ac.size
  have dD:U.heap.size<=s.heap.size:=Nat.le_trans cm (by omega)
  have B:=Wx (hok.2.1.2 _ (qO (z:=iB) (show d<seats.length by omega)))
  have hpz:=B.1
  have hab:=Cj B.2.2.2.1 B.2.2.2.2 hcb f bs
  refine Rn 1 Z (Sq ?_)
  by_cases c9:(f:Int)<2
  ·refine Cy Z (dT c9) (Nb (Rr 1 Z (Wa (.xQ (v:= J ((seats.getD d iB).p f)) f underlying35 nC yH Z Z Z (by omega) (zf (seats.getD d iB) (by omega))) Z (Yx 2 Z (WC.draw [0,1,2,3,4,5,6,7,8,9,10] mixed (by kernel_rfl) fun dE C=>?_)))))
   have dR:=aI.le C
   refine Xn 2 Z (Ga Z (.MO (((seats.getD d iB).p f).toNat) underlying48 nC Z Z (ax.vec.isSome iQ (by omega)) (by have:=(jH B (k:=f) (by omega)).1;omega) (by have:=(jH B (k:=f) (by omega)).1;omega)) ?_)
   have ap:=(aP.le C)
   refine Gd Z (.o9 (v:= J ((vZ (qB (nL own.length ls old) (seats.take d)) (seats.getD d iB) f).getD (((seats.getD d iB).p f).toNat) 0)) yH Z ap.vec iQ (jN (vZ (qB (nL own.length ls old) (seats.take d)) (seats.getD d iB) f) 0 (by rw[wW,zQ,uK];have:=(jH B (k:=f) (by omega)).1;omega)) Z) (Xn 2 Z (Xi f Z ?_))
   have cx:=(bt.le C)
   refine Xk (J ((seats.getD d iB).h f)) Z cx (nX (seats.getD d iB) (by omega)) (Ga Z (.sub Z Z (by have:=hab ((seats.getD d iB).p f).toNat;have:=(jH B (k:=f) (by omega)).2;omega)) (Ga Z (.MO (((seats.getD d iB).p f).toNat) underlying48 nC Z Z (ax.vec.isSome iQ (by omega)) (by have:=(jH B (k:=f) (by omega)).1;omega) (by have:=(jH B (k:=f) (by omega)).1;omega)) (G.jR Z Z Z Z (Ef.Tv (j:=((seats.getD d iB).p f).toNat) (o:=0) (((vZ (qB (nL own.length ls old) (seats.take d)) (seats.getD d iB) f).getD (((seats.getD d iB).p f).toNat) 0)-((seats.getD d iB).h f)) nC Z (by omega) Z ap iQ (jN (vZ (qB (nL own.length ls old) (seats.take d)) (seats.getD d iB) f) 0 (by rw[wW,zQ,uK];have:=(jH B (k:=f) (by omega)).1;omega)) (by decide) Z Z ?_))))
   intro dS dU aq
   refine noT (by kernel_rfl) ?_
   have dV:iX w dS (LF gp gs gh A c):=dR.ch aq (fun i hi hlt=>absurd hlt (by have:=(ap.row hi).1;have:=a1.size;omega))
   refine G.nil (Lp 1 Z Z ?_)
   have _:=n.size
   have dW:=((aK.le C).ch aq (ap.rl (by have:=aA.lt;omega)))
   have dX:=((aL.le C).ch aq (Apart.symm (fun q h1 h2=>by have:=(aB.row h1).2;have:=(ap.row h2).1;omega)))
   have dY:=((aM.le C).ch aq (ap.rl (by have:=aC.lt;omega)))
   have dZ:=((aN.le C).ch aq (ap.rl (by have:=aD.lt;omega)))
   have d0:=((aO.le C).ch aq (ap.rl (by have:=aE.lt;omega)))
   have d1:=(cx.ch aq (aG.rn (by omega)))
   refine E.again (f+1) (.of Z) ?_ ?_
   ·exact⟨by omega,dV,by have:=aJ;have:=C.size;have:=aq.size;omega,dW,dX,dY,dZ,d0,dU,d1⟩
   first|omega|(simp only[];omega)
  refine Cn Z (dF c9) (WC.exit (E.jW (E.jW (E.rQ (Lp 1 Z Z (E.again (d+1) (.of Z) ?_ ?_))))))
  ·exact⟨by omega,aI,by have:=ce;have:=aX;have:=a0;have:=bf;have:=aJ;have:=L.size;have:=ae.size;have:=n.size;omega,aK,aL,aM,aN,aO,(aP.cast Z (by have e5:f=2:=(by omega);rw[e5,Bj (by omega)]))⟩
  first|omega|(simp only[];omega)
 refine Cn Z (dF c7) (Ex (Sq (Rr 2 Z (Yc Z (by have e:(qB (nL own.length ls old) (seats.take d))=fee:=(by rw[List.take_of_length_le (by omega)];exact hlf);have q:=Uz (ca:=nf) (cb:=cf) P aG.vec (hf.ji a2 hfa) (by omega);rw[dT e]at q;exact q) fun d2 aQ=>?_))))
 refine Yx 1 Z (Cf Z (Sn (Sq (Rn 3 Z (Bk ?_)))))
 refine WC.loop (ι:=Nat×SM) (fun⟨K,lm⟩=>[(0,.pointer (some ⟨gp,0,none⟩)),(2,.slice As ns cS),(3,.slice Af nf cf),(187,.slice Ao no co),(188,J (no:Int)),(189,J (K:Int))]) (fun⟨K,lm⟩ ar=>(K<=no)/\(lm=Hw ls (old.take K))/\iX w ar (LF gp gs gh A c)/\d2.heap.size<=ar.heap.size/\ik ar gp 129 #[.slice A own.length c,.map (some gs),.map (some gh),J (lost)]/\iy ar 0 3 iv 1 A own.length c own/\jk ar uu mJ gs lm cs/\jk ar Ff pY gh lh ck) (fun⟨K,lm⟩=>no-K) (0,ls) ?_ ?_ ?_
 ·exact .of Z
 ·exact⟨Nat.zero_le _,rfl,(a2.le aQ),Nat.le_refl _,(ci.le aQ),(bl.le aQ),(bm.le aQ),(bn.le aQ)⟩
 rintro⟨K,lm⟩ ar ⟨eK,hlm,bv,d3,bw,cy,cz,cA⟩
 refine Rn 1 Z (Sq ?_)
 by_cases cB:(K:Int)<(no:Int)
 ·refine Cy Z (dT cB) (Nb (Sr (Ys K Z (ho.isSome iQ (by omega)) (Wr (.o9 (v:= J (old.getD K 0)) yH Z (ho.ji bv hoa) iQ (jN old 0 (by omega)) Z) Z (Yx 1 Z (Rg (Yn 3 Z (Yk (.map (some gs)) Z bw Z (Yn 1 Z ?_)))))))))
  refine W.jR Z Z (Ef.Rf (key:=(old.getD K 0)) underlying126 qG Z Z cz fun d4 d5 aR=>?_)
  have d6:iX w d4 (LF gp gs gh A c):=bv.ch aR (fun i hi _=>by cases hi;exact Or.inr (Or.inl Z))
  refine W.nil (Lp 1 Z Z ?_)
  have d7:=(cy.ch aR (fun q hq=>by cases hq;exact n5))
  refine E.again (K+1,(tJ (old.getD K 0) lm)) (.of Z) ?_ ?_
  ·exact⟨by omega,by rw[Np (by omega),<-hlm],d6,by have:=d3;have:=aR.size;omega,(bw.ch aR (fun h=>(Ne.symm n1) (oI h))),d7,d5,(cA.ch aR (fun h=>n3 (oI h)))⟩
  first|omega|(simp only[];omega)
 refine Cn Z (dF cB) (Ex (Sq (Rn 3 Z (Bk ?_))))
 refine WC.loop (ι:=Nat×SM×Nat) (fun⟨t,ln,cn⟩=>[(0,.pointer (some ⟨gp,0,none⟩)),(3,.slice Af nf cf),(199,.slice As ns cS),(200,J (ns:Int)),(201,J (t:Int))]) (fun⟨t,ln,cn⟩ au=>(t<=ns)/\((ln,cn)=Hy (lm,cs) (seats.take t))/\iX w au (LF gp gs gh A c)/\ar.heap.size<=au.heap.size/\ik au gp 129 #[.slice A own.length c,.map (some gs),.map (some gh),J (lost)]/\iy au 0 3 iv 1 A own.length c own/\jk au uu mJ gs ln cn/\jk au Ff pY gh lh ck) (fun⟨t,ln,cn⟩=>ns-t) (0,lm,cs) ?_ ?_ ?_
 ·exact .of Z
 ·exact⟨Nat.zero_le _,rfl,bv,Nat.le_refl _,bw,cy,cz,cA⟩
 rintro⟨t,ln,cn⟩ au ⟨eL,hln,bx,cC,cD,bz,bA,bB⟩
 refine Rn 1 Z (Sq ?_)
 by_cases cE:(t:Int)<(ns:Int)
 ·refine Cy Z (dT cE) (Nb (Sr (Ys t Z (hs.isSome iI (by omega)) (Wr (.lX TP Z (hs.ji bx hsa) iI (jN seats iB (by omega))) Z (W.ab Z z52 wu (iI.one (seats.getD t iB)) fun d8 d9 eM (ea:ik d9 d8 52 (iV (seats.getD t iB)).toArray) ad=>Nx (WC.draw [0,1,2,3,4,5,6,7] mixed (by kernel_rfl) fun eN Q=>?_))))))
  have cF:=(bx.le ad).le Q
  refine Xn 3 Z ?_
  have bC:=(cD.le (ad.trans Q))
  refine Xk (.map (some gs)) Z bC Z (Xn 1 Z ?_)
  have cG:=(ea.le Q)
  refine Xk (J ((seats.getD t iB).ch)) Z cG Z (Xh Z cG ?_)
  rcases optG (iO ((seats.getD t iB).ch) ln)with aS|⟨eO,aS⟩
  ·have eb:=(bA.le (ad.trans Q))
   refine G.jR Z Z Z Z (Ef.Cb (key:=((seats.getD t iB).ch)) (u:=(seats.getD t iB)) underlying126 qG Z Z Z eb aS fun ec ed aT=>noT (by kernel_rfl) ?_)
   have ee:iX w ec (LF gp gs gh A c):=cF.ch aT (fun i hi _=>by cases hi;exact Or.inr (Or.inl Z))
   refine G.nil (Lp 1 Z Z ?_)
   have eg:=((bz.le (ad.trans Q)).ch aT (fun q hq=>by cases hq;exact n5))
   refine E.again (t+1,(ln++[(cn,(seats.getD t iB).ch,(seats.getD t iB))]),(cn+1)) (.of Z) ?_ ?_
   ·exact⟨by omega,by rw[EZ (by omega),<-hln,TA aS],ee,by have:=cC;have:=ad.size;have:=Q.size;have:=aT.size;omega,(bC.ch aT (fun h=>(Ne.symm n1) (oI h))),eg,ed,((bB.le (ad.trans Q)).ch aT (fun h=>n3 (oI h)))⟩
   first|omega|(simp only[];omega)
  refine G.jR Z Z Z Z (Ef.F9 (key:=((seats.getD t iB).ch)) (u:=(seats.getD t iB)) underlying126 qG Z Z Z (bA.le (ad.trans Q)) Ig aS fun eh ei aU=>noT (by kernel_rfl) ?_)
  have ej:iX w eh (LF gp gs gh A c):=cF.ch aU (fun i hi _=>by cases hi;exact Or.inr (Or.inl Z))
  refine G.nil (Lp 1 Z Z ?_)
  have ek:=((bz.le (ad.trans Q)).ch aU (fun q hq=>by cases hq;exact n5))
  refine E.again (t+1,(oJ (seats.getD t iB).ch (seats.getD t iB) ln),cn) (.of Z) ?_ ?_
  ·exact⟨by omega,by rw[EZ (by omega),<-hln,TB aS],ej,by have:=cC;have:=ad.size;have:=Q.size;have:=aU.size;omega,(bC.ch aU (fun h=>(Ne.symm n1) (oI h))),ek,ei,((bB.le (ad.trans Q)).ch aU (fun h=>n3 (oI h)))⟩
  first|omega|(simp only[];omega)
 refine Cn Z (dF cE) (Ex (Sq (Rn 3 Z (Bk ?_))))
 refine WC.loop (ι:=Nat×Int) (fun⟨H,lo⟩=>[(0,.pointer (some ⟨gp,0,none⟩)),(213,.slice Af nf cf),(214,J (nf:Int)),(215,J (H:Int))]) (fun⟨H,lo⟩ ay=>(H<=nf)/\(lo=lost+(fee.take H).sum)/\iX w ay (LF gp gs gh A c)/\au.heap.size<=ay.heap.size/\ik ay gp 129 #[.slice A own.length c,.map (some gs),.map (some gh),J (lo)]/\iy ay 0 3 iv 1 A own.length c own/\jk ay uu mJ gs ln cn/\jk ay Ff pY gh lh ck) (fun⟨H,lo⟩=>nf-H) (0,lost) ?_ ?_ ?_
 ·exact .of Z
 ·exact⟨Nat.zero_le _,by simp,bx,Nat.le_refl _,cD,bz,bA,bB⟩
 rintro⟨H,lo⟩ ay ⟨eP,hlo,bD,el,bE,cH,cI,cJ⟩
 have hcs:=Nq hok.2.2 H (by omega)
 refine Rn 1 Z (Sq ?_)
 by_cases cK:(H:Int)<(nf:Int)
 ·refine Cy Z (dT cK) (Nb (Sr (Ys H Z (hf.isSome iQ (by omega)) (Wr (.o9 (v:= J (fee.getD H 0)) yH Z (hf.ji bD hfa) iQ (jN fee 0 (by omega)) Z) Z (Yx 1 Z (Rg (Yn 3 Z (Yk (J lo) Z bE Z (Yn 1 Z ?_)))))))))
  refine Wa (.add Z Z (by have:=aal hok.2.2 (show H<fee.length by omega);omega)) Z (Yn 2 Z (W.jR Z Z (Ef.store nC Z Z bE (by first|decide|(simp;done)) Z ?_)))
  intro cL bF aV
  have bF:ik cL gp 129 #[.slice A own.length c,.map (some gs),.map (some gh),J (lo+(fee.getD H 0))]:=bF
  have em:iX w cL (LF gp gs gh A c):=bD.ch aV (fun i hi _=>by cases hi;exact Or.inl Z)
  refine W.nil (Lp 1 Z Z ?_)
  have en:=(cH.ch aV (fun q hq=>by cases hq;exact n4))
  refine E.again (H+1,(lo+(fee.getD H 0))) (.of Z) ?_ ?_
  ·exact⟨by omega,by rw[qK (by omega)];omega,em,by have:=el;have:=aV.size;omega,bF,en,(cI.ch aV (fun h=>n1 (oI h))),(cJ.ch aV (fun h=>n2 (oI h)))⟩
  first|omega|(simp only[];omega)
 refine Cn Z (dF cK) (Ex (Ry 1 Z Z Z ?_))
 have e1:Hz ls cs old seats=(ln,cn):=(by rw[hln,hlm,List.take_of_length_le (by omega),List.take_of_length_le (by omega)];rfl);have e2:lost+fee.sum=lo:=(by rw[hlo,List.take_of_length_le (by omega)]);exact⟨bD,rfl,by rw[e1,e2];exact⟨bE,cH,cI,cJ,n1,n2,n3,n4,n5,n6⟩⟩
theorem zm {q:Nat}(h:lN A=some q)(hc:0<c):rowOf A c=some q:=by
 unfold rowOf
 rw[if_neg (by omega)]
 exact h
def XJ (w:World)(F F':Nat->Prop):Prop:=∀k,F' k->F k\/w.heap.size<=k
def kQ (w:World)(base gp:Nat)(F:Nat->Prop)(s:rP):Prop:=∃gs gh A c,mr w gp gs gh A c s.cs s.ck s.own s.ls s.lh s.lost/\jB s/\(∀k,F k↔LF gp gs gh A c k)/\∀k,F k->base<=k
section
variable {w w':World}{base gp:Nat}{F:Nat->Prop}{s:rP}
theorem kQ.ji {F':Nat->Prop}(h:kQ w base gp F s)(hc:iX w w' F')(hne:∀k,F k->¬F' k):kQ w' base gp F s:=by
 obtain⟨gs,gh,A,c,e,f,d,i⟩:=h
 exact⟨gs,gh,A,c,e.ji hc (fun k hk=>hne k ((d k).2 hk)),f,d,i⟩
theorem kQ.ch {r:Option Nat}(h:kQ w base gp F s)(hc:Ch w w' r)(hne:∀k,r=some k->¬F k):kQ w' base gp F s:=h.ji (hc.ji (F:=fun k=>r=some k) (fun i hi=>hi)) (fun k hk hr=>hne k hr hk)
theorem kQ.le (h:kQ w base gp F s)(hl:Le w w'):kQ w' base gp F s:=h.ji (hl.ji (fun _=>False)) (fun _ _ hf=>hf)
theorem kQ.lt (h:kQ w base gp F s){k:Nat}(hk:F k):k<w.heap.size:=by
 obtain⟨gs,gh,A,c,d,f,e,i⟩:=h
 exact d.lt ((e k).1 hk)
theorem kQ.good (h:kQ w base gp F s):jB s:=by
 obtain⟨gs,gh,A,c,e,d,f,i⟩:=h
 exact d
theorem kQ.old (h:kQ w base gp F s){k:Nat}(hk:F k):base<=k:=by
 obtain⟨gs,gh,A,c,e,f,i,d⟩:=h
 exact d k hk
theorem kQ.size (h:kQ w base gp F s):base<=w.heap.size:=by
 obtain⟨gs,gh,A,c,d,i,e,f⟩:=h
 have:=f gp ((e gp).2 (.inl Z))
 have:=d.hp.lt
 omega
variable {gs':Nat}
theorem kQ.next {gh:Nat}{s':rP}(h:mr w' gp gs' gh A c s'.cs s'.ck s'.own s'.ls s'.lh s'.lost)(hg:jB s')(hF:∀k,F k↔LF gp gs gh A c k)(hb:∀k,F k->base<=k)(hbw:base<=w.heap.size)(hs:gs'=gs\/w.heap.size<=gs'):
  ∃F',kQ w' base gp F' s'/\XJ w F F':=by
 have hgr:∀k,LF gp gs' gh A c k->F k\/w.heap.size<=k:=by
  rintro k (hk|hk|hk|hk)
  ·exact .inl ((hF k).2 (.inl hk))
  ·rcases hs with hs|hs
   ·exact .inl ((hF k).2 (.inr (.inl (hk.trans hs))))
   ·exact .inr (by omega)
  ·exact .inl ((hF k).2 (.inr (.inr (.inl hk))))
  ·exact .inl ((hF k).2 (.inr (.inr (.inr hk))))
 refine⟨LF gp gs' gh A c,⟨gs',gh,A,c,h,hg,fun _=>Iff.rfl,fun k hk=>?_⟩,hgr⟩
 rcases hgr k hk with d|d
 ·exact hb k d
 ·omega
theorem XK (h:jB s):J5 s.ls:=fun x hx=>by
 obtain⟨_,_,_,_,_,c,d⟩:=h.seats x hx
 omega
theorem XL (h:jB s):∀x∈s.ls,∀i,0<=x.2.2.h i/\x.2.2.h i<=1125899906842624:=fun x hx i=>(Ws (h.seats x hx).2.2 i).1
theorem XM (h:jB s):∀x∈s.ls,0<=x.2.2.h0/\0<=x.2.2.h1:=fun x hx=>by
 obtain⟨_,_,_,_,_,c,d⟩:=h.seats x hx
 omega
theorem acK (h:jB s):∀x∈s.lh,(0<=x.2.1.side/\x.2.1.side<=1)/\(0<=x.2.2.am/\x.2.2.am<=1125899906842624)/\∃t,iO x.2.1.ch s.ls=some t:=fun x hx=>by
 obtain⟨c,e,d⟩:=h.holds x hx
 exact⟨c,by omega,d⟩
theorem acL (h:jB s):∀x∈s.ls,o7 s.own.length x.2.2:=fun x hx=>(h.seats x hx).2.2
theorem acM (h:jB s):∀ch side,jA s.lh ch side<=1125899906842624:=fun ch side=>(h.JL ch side).2
def CL (w:World)(base gp:Nat)(F:Nat->Prop)(r:rP×Int):Ending->World->Prop:=fun e w'=>∃F',e= .returned (J r.2)/\kQ w' base gp F' r.1/\XJ w F F'/\iX w w' F
theorem sI {gh:Nat}{r:rP×Int}{e:Ending}(hr:e= .returned (J r.2))(h:mr w' gp gs' gh A c r.1.cs r.1.ck r.1.own r.1.ls r.1.lh r.1.lost)(hg:jB r.1)(hF:∀k,F k↔LF gp gs gh A c k)(hb:∀k,F k->base<=k)(hbw:base<=w.heap.size)(hs:gs'=gs\/w.heap.size<=gs')(hc:iX w w' (LF gp gs gh A c)):CL w base gp F r e w':=by
 obtain⟨F',d,f⟩:=kQ.next h hg hF hb hbw hs
 exact⟨F',hr,d,f,hc.mono (fun k hk _=>(hF k).2 hk)⟩
theorem zn (t:Seat)(fee:Int)(h:kQ w base gp F s):Calls prog 8 #[.pointer (some ⟨gp,0,none⟩),.agg (iV t).toArray,J fee] w (CL w base gp F (pE s t fee)):=by
 have hbw:=h.size
 have hgd:=h.good
 have hg:=(Tw hgd t fee).1
 obtain⟨gs,gh,A,c,l,m,i,j⟩:=h
 refine Calls.mono (XB t fee w l hgd.ownB hgd.Wp) ?_
 rintro r w' ⟨hc,hr⟩
 rcases hr with⟨d,rfl,hL⟩|⟨d,⟨u,f⟩,rfl,hL⟩|⟨d,f,k,rfl,hL⟩|⟨d,f,k,rfl,hL⟩
 ·have e:pE s t fee=(s,1):=by unfold pE;rw[if_pos d]
  rw[e]at hg ⊢
  exact sI Z hL hg i j hbw (.inl Z) hc
 ·have e:pE s t fee=(s,4):=by unfold pE;rw[if_neg (not_not_intro d),if_pos (by rw[f];rfl)]
  rw[e]at hg ⊢
  exact sI Z hL hg i j hbw (.inl Z) hc
 ·have e:pE s t fee=(s,8):=by unfold pE;rw[if_neg (not_not_intro d),if_neg (by rw[f];simp),if_pos k]
  rw[e]at hg ⊢
  exact sI Z hL hg i j hbw (.inl Z) hc
 ·have e:pE s t fee=(⟨rf (rf s.own t 0 t.h0 fee) t 1 t.h1 0,s.ls++[(s.cs,t.ch,t)],s.cs+1,s.lh,s.ck,s.lost+fee⟩,0):=by unfold pE;rw[if_neg (not_not_intro d),if_neg (by rw[f];simp),if_neg k]
  rw[e]at hg ⊢
  exact sI Z hL hg i j hbw (.inl Z) hc
theorem UA (ch:Int)(fee:jw)(h:kQ w base gp F s)(hco:(0<=fee.a/\fee.a<=1125899906842624)/\0<=fee.b/\fee.b<=1125899906842624){t:Seat}(hs:iO ch s.ls=some t)(hbz:¬jA s.lh ch 0+jA s.lh ch 1=0):Calls prog 20 #[.pointer (some ⟨gp,0,none⟩),J ch,.agg (jq fee).toArray] w (CL w base gp F (K8 s ch fee)):=by
 have hbw:=h.size
 have hgd:=h.good
 obtain⟨gs,gh,A,c,d,j,f,i⟩:=h
 refine Calls.mono (Ul ch fee w d hgd.Na (acM hgd) hco hs hbz) ?_
 rintro r w' ⟨hc,rfl,hL⟩
 have e:K8 s ch fee=(s,14):=by unfold K8;rw[if_neg (not_not_intro hco),hs];simp only;rw[if_pos hbz]
 rw[e]
 exact sI Z hL hgd f i hbw (.inl Z) hc
theorem UB {ch side id am:Int}{pt:Nat}(h:(nI s ch side id am pt).2=0):zL side id am pt/\∃t,iO ch s.ls=some t/\iO (⟨ch,side,id⟩:kI) s.lh=none/\¬t.h side.toNat<am:=by
 unfold nI at h
 split at h
 ·cases h
 ·rename_i c1
  split at h
  ·cases h
  ·rename_i t e
   split at h
   ·cases h
   ·rename_i c2
    split at h
    ·cases h
    ·rename_i c3;exact⟨Decidable.not_not.1 c1,t,e,by simpa using c2,c3⟩
theorem Ka (ch side id am:Int)(pt:Nat)(hpt:pt<18446744073709551616)(h:kQ w base gp F s)(h0:(nI s ch side id am pt).2=0):Calls prog 10 #[.pointer (some ⟨gp,0,none⟩),J ch,J side,J id,J am,.int .u64 (pt:Int)] w (CL w base gp F (nI s ch side id am pt)):=by
 have hbw:=h.size
 have hgd:=h.good
 have hg:=(PS hgd ch side id am pt).1
 obtain⟨gs,gh,A,c,k,n,l,m⟩:=h
 obtain⟨d,t,f,i,j⟩:=UB h0
 refine Calls.mono (Uh ch side id am pt w k hpt (XL hgd) d f i j) ?_
 rintro r w' ⟨hc,rfl,hL⟩
 have e:nI s ch side id am pt=(⟨s.own,oJ ch (t.setH side.toNat (t.h side.toNat-am)) s.ls,s.cs,s.lh++[(s.ck,⟨ch,side,id⟩,⟨am,pt⟩)],s.ck+1,s.lost⟩,0):=by unfold nI;rw[if_neg (not_not_intro d),f];simp only;rw[if_neg (by rw[i];simp),if_neg j]
 rw[e]at hg ⊢
 exact sI Z hL hg l m hbw (.inl Z) hc
theorem Bo (ch side id:Int)(sec:Nat)(h:kQ w base gp F s):Calls prog 11 #[.pointer (some ⟨gp,0,none⟩),J ch,J side,J id,.int .u64 (sec:Int)] w (CL w base gp F (lZ s ch side id sec)):=by
 have hbw:=h.size
 have hgd:=h.good
 have hg:=(Nl hgd ch side id sec).1
 obtain⟨gs,gh,A,c,k,m,f,i⟩:=h
 refine Calls.mono (Qd ch side id sec w k (XL hgd) (acK hgd)) ?_
 rintro r w' ⟨hc,hr⟩
 rcases hr with⟨d,rfl,hL⟩|⟨x,d,⟨j,rfl,hL⟩|⟨j,rfl,t,l,hL⟩⟩
 ·have e:lZ s ch side id sec=(s,5):=by unfold lZ;rw[d]
  rw[e]at hg ⊢
  exact sI Z hL hg f i hbw (.inl Z) hc
 ·have e:lZ s ch side id sec=(s,23):=by unfold lZ;rw[d];simp only;rw[if_pos j]
  rw[e]at hg ⊢
  exact sI Z hL hg f i hbw (.inl Z) hc
 ·have e:lZ s ch side id sec=(Nc s ch side id x t (1-side),0):=by unfold lZ;rw[d];simp only;rw[if_neg (not_not_intro j),l];rfl
  rw[e]at hg ⊢
  exact sI Z hL hg f i hbw (.inl Z) hc
theorem Oe (ch side id:Int)(h:kQ w base gp F s):Calls prog 12 #[.pointer (some ⟨gp,0,none⟩),J ch,J side,J id] w (CL w base gp F (um s ch side id)):=by
 have hbw:=h.size
 have hgd:=h.good
 have hg:=(Tx hgd ch side id).1
 obtain⟨gs,gh,A,c,j,l,f,i⟩:=h
 refine Calls.mono (XC ch side id w j (XL hgd) (acK hgd)) ?_
 rintro r w' ⟨hc,hr⟩
 rcases hr with⟨d,rfl,hL⟩|⟨x,d,rfl,t,k,hL⟩
 ·have e:um s ch side id=(s,5):=by unfold um;rw[d]
  rw[e]at hg ⊢
  exact sI Z hL hg f i hbw (.inl Z) hc
 ·have e:um s ch side id=(Nc s ch side id x t side,0):=by unfold um;rw[d];simp only;rw[k];rfl
  rw[e]at hg ⊢
  exact sI Z hL hg f i hbw (.inl Z) hc
theorem R6 {Ag:Option Addr}{ng cg:Nat}{iH:List Bc}(h:kQ w base gp F s)(hg:jB (K9 s iH).1)(hg0:Vec w DW 3 Ag ng iH)(hng:ng<=1000)(hga:∀q,lN Ag=some q->0<ng->q<w.heap.size->¬F q):Calls prog 21 #[.pointer (some ⟨gp,0,none⟩),.slice Ag ng cg] w (CL w base gp F (K9 s iH)):=by
 have hbw:=h.size
 have hgd:=h.good
 obtain⟨gs,gh,A,c,k,m,f,j⟩:=h
 refine Calls.mono (aaG w k hg0 hng (XK hgd) (fun q a b d e=>hga q a b d ((f q).2 e))) ?_
 rintro r w' ⟨hc,hr⟩
 rcases hr with⟨i,rfl,hL⟩|⟨i,rfl,gs',l,hL⟩
 ·have e:K9 s iH=(s,(kJ s.ls iH).2):=by unfold K9;rw[if_pos i]
  rw[e]at hg ⊢
  exact sI Z hL hg f j hbw (.inl Z) hc
 ·have e:K9 s iH=(⟨s.own,(kJ s.ls iH).1,s.cs,s.lh,s.ck,s.lost⟩,0):=by unfold K9;rw[if_neg (by simpa using i)]
  rw[e]at hg ⊢
  exact sI Z hL hg f j hbw (.inr l) hc
theorem Qh (ch:Int)(d fee:jw)(hd:∀k,k<2-> -9223372036854775808<=d.ix k/\d.ix k<=9223372036854775807)(h:kQ w base gp F s)(hg:jB (qR s ch d fee).1):Calls prog 23 #[.pointer (some ⟨gp,0,none⟩),J ch,.agg (jq d).toArray,.agg (jq fee).toArray] w (CL w base gp F (qR s ch d fee)):=by
 have hbw:=h.size
 have hgd:=h.good
 obtain⟨gs,gh,A,c,o,u,i,j⟩:=h
 refine Calls.mono (Qe ch d fee w o hd (acL hgd) hgd.ownB hgd.Wp) ?_
 rintro r w' ⟨hc,hr⟩
 rcases hr with⟨f,rfl,hL⟩|⟨f,l,rfl,hL⟩|⟨f,t,l,⟨m,rfl,hL⟩|⟨m,rfl,hL⟩⟩
 ·have e:qR s ch d fee=(s,1):=by unfold qR;rw[if_pos f]
  rw[e]at hg ⊢
  exact sI Z hL hg i j hbw (.inl Z) hc
 ·have e:qR s ch d fee=(s,5):=by unfold qR;rw[if_neg (not_not_intro f),l]
  rw[e]at hg ⊢
  exact sI Z hL hg i j hbw (.inl Z) hc
 ·have n:BC s.own t d fee 0\/BC s.own t d fee 1:=by
   obtain⟨k,hk,hh⟩:=m
   have:k=0\/k=1:=by omega
   rcases this with rfl|rfl
   ·exact .inl hh
   ·exact .inr hh
  have e:qR s ch d fee=(s,8):=by unfold qR;rw[if_neg (not_not_intro f),l];simp only;rw[if_pos n]
  rw[e]at hg ⊢
  exact sI Z hL hg i j hbw (.inl Z) hc
 ·have n:¬(BC s.own t d fee 0\/BC s.own t d fee 1):=by
   rintro(hh|hh)
   ·exact m 0 (by omega) hh
   ·exact m 1 (by omega) hh
  have e:qR s ch d fee=(⟨ZQ s.own (qm t d 2) d fee 2,oJ ch (qm t d 2) s.ls,s.cs,s.lh,s.ck,yg s.lost fee 2⟩,0):=by unfold qR;rw[if_neg (not_not_intro f),l];simp only;rw[if_neg n]
  rw[e]at hg ⊢
  exact sI Z hL hg i j hbw (.inl Z) hc
theorem aaX {Ao As:Option Addr}{no co ns cS:Nat}{old fee:List Int}{ss:List Seat}(h:kQ w base gp F s)(h0:TC s.own.length s.ls s.lh old ss fee=0)(hg:jB (uP s old ss fee).1)(ho:Vec w iv 1 Ao no old)(hs:Vec w iV 5 As ns ss)(hf:Vec w iv 1 Af nf fee)(hno:no<=1000)(hns:ns<=1000)(hnf:nf<=1000)
  (hoa:∀q,lN Ao=some q->0<no->q<w.heap.size->¬F q)(hsa:∀q,lN As=some q->0<ns->q<w.heap.size->¬F q)(hfa:∀q,lN Af=some q->0<nf->q<w.heap.size->¬F q):
  Calls prog 22 #[.pointer (some ⟨gp,0,none⟩),.slice Ao no co,.slice As ns cS,.slice Af nf cf] w (CL w base gp F (uP s old ss fee)):=by
 have hbw:=h.size
 have hgd:=h.good
 obtain⟨gs,gh,A,c,i,k,f,j⟩:=h
 refine Calls.mono (aaW w i h0 ho hs hf hno hns hnf (fun q a b d e=>hoa q a b d ((f q).2 e)) (fun q a b d e=>hsa q a b d ((f q).2 e)) (fun q a b d e=>hfa q a b d ((f q).2 e)) hgd.Na (acM hgd) (acL hgd) hgd.Wp) ?_
 rintro r w' ⟨hc,rfl,hL⟩
 have e:uP s old ss fee=(⟨s.own,(Hz s.ls s.cs old ss).1,(Hz s.ls s.cs old ss).2,s.lh,s.ck,s.lost+fee.sum⟩,0):=by unfold uP;rw[if_neg (not_not_intro h0)]
 rw[e]at hg ⊢
 exact sI Z hL hg f j hbw (.inl Z) hc
theorem LA (party:Int)(h:kQ w base gp F s):Calls prog 18 #[.pointer (some ⟨gp,0,none⟩),J party] w fun r w'=>r= .returned (J (uN s.own party))/\Le w w':=by
 obtain⟨gs,gh,A,c,d,e,f,i⟩:=h
 exact RU party w d
theorem Im (h:kQ w base gp F s):Calls prog 16 #[.pointer (some ⟨gp,0,none⟩)] w fun r w'=>r= .returned (J s.lost)/\Le w w':=by
 obtain⟨gs,gh,A,c,d,e,f,i⟩:=h
 exact aaD w d
theorem Io (ch:Int)(h:kQ w base gp F s):Calls prog 13 #[.pointer (some ⟨gp,0,none⟩),J ch] w fun r w'=>r= .returned (.tuple #[.agg (iV (rW s.ls ch)).toArray,.bool (iO ch s.ls).isSome])/\Le w w':=by
 obtain⟨gs,gh,A,c,d,e,f,i⟩:=h
 exact Xy ch w d
theorem XN (ch side:Int)(h:kQ w base gp F s):Calls prog 19 #[.pointer (some ⟨gp,0,none⟩),J ch,J side] w fun r w'=>r= .returned (J (jA s.lh ch side))/\Le w w':=by
 have hgd:=h.good
 obtain⟨gs,gh,A,c,d,e,f,i⟩:=h
 exact CG ch side w d hgd.Na (by have:=(hgd.JL ch side).2;omega)
theorem qw (party:Int)(h:kQ w base gp F s):Calls prog 14 #[.pointer (some ⟨gp,0,none⟩),J party] w fun r w'=>r= .returned (J (mG s.own s.ls s.lh party))/\Le w w':=by
 have hgd:=h.good
 obtain⟨gs,gh,A,c,d,e,f,i⟩:=h
 exact J3 party w d hgd.Na (XM hgd) (Hr hgd party).2 (by have:=Nn hgd party;omega)
theorem Kb (h:kQ w base gp F s):Calls prog 17 #[.pointer (some ⟨gp,0,none⟩)] w fun r w'=>r= .returned (J (s.all-s.lost))/\Le w w':=by
 have hgd:=h.good
 obtain⟨gs,gh,A,c,d,e,f,j⟩:=h
 have ht:=JP hgd
 refine Calls.mono (Uk w d hgd.Na (XM hgd) (fun i=>(Hr hgd i).2) (by have:=hgd.len;omega) (fun i=>by have d:=Hr hgd i;have e:=Nn hgd i;omega)) ?_
 rintro r w' ⟨rfl,hl⟩
 exact⟨by rw[ht];unfold rP.all;congr 2;omega,hl⟩
theorem UC (h:kQ w base gp F s):Calls prog 24 #[.pointer (some ⟨gp,0,none⟩)] w fun r w'=>∃(A:Option Addr) (c:Nat),r= .returned (.slice A (DL s.ls).length c)/\iy w' w.heap.size 52 iV 5 A (DL s.ls).length c (DL s.ls)/\Le w w':=by
 have hgd:=h.good
 obtain⟨gs,gh,A,c,d,f,i,j⟩:=h
 refine Calls.mono (Ux w d (fun x hx=>by have:=(hgd.seats x hx).2.1;unfold inI;omega) (by have:=hgd.few;omega)) ?_
 rintro r w' ⟨A',c',ns,rfl,hp,hw,ho,hl⟩
 have e:ns=WB (nK s.ls):=Nz (hp.trans (DK _).symm) hw (Ny _)
 subst e
 exact⟨A',c',by rw[HV],ho.cast (HV _).symm Z,hl⟩
variable {Aw:Option Addr}{nw cw:Nat}
theorem R7 {own:List Int}(w:World)(hO:Vec w iv 1 Aw nw own)(hn:BB own):Calls prog 7 #[.slice Aw nw cw] w fun r w'=>∃gp F,r= .returned (.pointer (some ⟨gp,0,none⟩))/\kQ w' w.heap.size gp F ⟨own,[],0,[],0,0⟩/\Le w w':=by
 refine Calls.mono (RY w hO) ?_
 rintro r w' (⟨q,_⟩|⟨q,gp,gs,gh,A,c,rfl,hL,hk,hl⟩)
 ·exact absurd hn q
 ·exact⟨gp,LF gp gs gh A c,rfl,⟨gs,gh,A,c,hL,(Wu q).1,fun _=>Iff.rfl,hk⟩,hl⟩
theorem Ip {own:List Int}(w:World)(hO:Vec w iv 1 Aw nw own)(hn:¬BB own):Calls prog 7 #[.slice Aw nw cw] w fun r w'=>r= .returned (.pointer none)/\Le w w':=by
 refine Calls.mono (RY w hO) ?_
 rintro r w' (⟨q,h⟩|⟨q,_⟩)
 ·exact h
 ·exact absurd q hn
end
open Go.JQ
def jl (c:mF):List Value:=[J c.fr,J c.id,J c.am,.int .u64 (c.pt:Int),J c.ex]
theorem iN:kM jl 5:=⟨fun _=>rfl,fun x v hv=>by simp[jl]at hv;rcases hv with rfl|rfl|rfl|rfl|rfl<;>rfl,by decide⟩
structure vM where
 am:Int
 op:Int
 p0:Nat
 p1:Nat
 p2:Nat
 p3:Nat
 p4:Nat
 p5:Nat
 p6:Nat
 p7:Nat
 p8:Nat
 p9:Nat
def mU (c:vM):List Value:=List.replicate 32 (.int .u8 0)++[J 0,J c.am,.int .u64 (c.p0:Int),.int .u64 (c.p1:Int),.int .u64 (c.p2:Int),.int .u64 (c.p3:Int),.int .u64 (c.p4:Int),.int .u64 (c.p5:Int),.int .u64 (c.p6:Int),.int .u64 (c.p7:Int),.int .u64 (c.p8:Int),.int .u64 (c.p9:Int),J 100,J 200,J 5,J 16,J 1,J 1125899906842624,J 100,J 200,J 6,J 16,J 1,J 1125899906842624,J c.op]
def rZ (p:Nat):Prop:=right p=true/\p≠1/\p<18446744073709551616
structure CO (c:vM):Prop where
 am:400<=c.am/\c.am<=1125899906842624
 op:0<=c.op/\c.op<=1
 pts:rZ c.p0/\rZ c.p1/\rZ c.p2/\rZ c.p3/\rZ c.p4/\rZ c.p5/\rZ c.p6/\rZ c.p7/\rZ c.p8/\rZ c.p9
def ZA:List Int->Int
 |[]=>0
 |x::l=>if x≠0 then x else ZA l
theorem Iq:∀(l:List Int) (k:Nat),(∀j,j<k->l.getD j 0=0)->ZA l=ZA (l.drop k)
 |_,0,_=>rfl
 |[],k+1,_=>by simp
 |x::l,k+1,h=>by
  have h0:x=0:=h 0 (by omega)
  rw[ZA,if_neg (by simp[h0]),List.drop_succ_cons]
  exact Iq l k (fun j hj=>h (j+1) (by omega))
def Qi (a b:mF):Int:=ZA [pJ a.fr b.fr,pJ a.id b.id]
theorem Og {a b:mF}:Qi a b<0↔Bw a b:=by
 unfold Qi Bw pJ
 simp only[ZA]
 constructor
 ·intro h
  repeat' split at h
  all_goals omega
 ·intro h
  repeat' split
  all_goals omega
def Qj (pr:Int->Bool)(xs:List Int):Int:=if xs.any pr then(xs.findIdx pr:Int)else-1
theorem aaY {pr:Int->Bool}{xs:List Int}(hk:k<xs.length)(hb:∀j,j<k->¬pr (xs.getD j 0)=true)(h:pr (xs.getD k 0)=true):Qj pr xs=(k:Int):=by
 have hx:xs.getD k 0=xs[k]:=by simp[List.getD,hk]
 have:xs.findIdx pr=k:=by
  rw[List.findIdx_eq hk]
  exact⟨by rw[<-hx];exact h,fun j hj=>by have:=hb j hj;simpa[List.getD,show j<xs.length by omega]using this⟩
 rw[Qj,if_pos (by rw[List.any_eq_true];exact⟨xs[k],List.getElem_mem hk,by rw[<-hx];exact h⟩),this]
theorem aaZ {pr:Int->Bool}{xs:List Int}(hk:xs.length<=k)(hb:∀j,j<k->j<xs.length->¬pr (xs.getD j 0)=true): -1=Qj pr xs:=by
 rw[Qj,if_neg]
 rw[List.any_eq_true]
 rintro⟨y,hy,hp⟩
 obtain⟨j,hj,rfl⟩:=List.mem_iff_getElem.1 hy
 exact hb j (by omega) hj (by simpa[List.getD,hj]using hp)
theorem XO (pr:Int->Bool)(xs:List Int):decide (Qj pr xs≥0)=xs.any pr:=by
 unfold Qj;split
 ·rename_i h;rw[h];exact decide_eq_true (by omega)
 ·rename_i h;rw[Bool.not_eq_true]at h;rw[h];rfl
theorem aa0 (lo hi:Int)(xs:List Int):(!xs.any fun n=> !l7 n lo hi)=xs.all fun n=>l7 n lo hi:=by
 rw[List.all_eq_not_any_not]
def Qk (pr:Nat->Bool)(xs:List Nat):Int:=if xs.any pr then(xs.findIdx pr:Int)else-1
variable {pr:Nat->Bool}{xs:List Nat}
theorem UD (hk:xs.length<=k)(hb:∀j,j<k->¬pr (xs.getD j 0)=true):xs.any pr=false:=by
 rw[Bool.eq_false_iff]
 intro h
 rw[List.any_eq_true]at h
 obtain⟨y,hy,hp⟩:=h
 obtain⟨j,hj,rfl⟩:=List.mem_iff_getElem.1 hy
 exact hb j (by omega) (by simpa[List.getD,hj]using hp)
variable {α:Type}{l:List α}
theorem r9 {z:α}(h:k<l.length):l.getD k z∈l:=by
 have:l.getD k z=l[k]:=by simp[List.getD,h]
 rw[this];exact List.getElem_mem h
theorem Oh {rt:Int}(hr:0<=rt/\rt<=1000)(hk:k<=16):0<=rt*(68+8*(k:Int))/\rt*(68+8*(k:Int))<=196000:=by
 have c:rt*(68+8*(k:Int))<=1000*196:=Int.mul_le_mul hr.2 (by omega) (by omega) (by omega)
 exact⟨Int.mul_nonneg hr.1 (by omega),by omega⟩
theorem A9 {n lo hi:Int}(h:lo<=n/\n<=hi):l7 n lo hi=true:=by unfold l7;exact decide_eq_true h
theorem aa1 {c:mF}(h:E5 c):c.pt<18446744073709551616:=by
 have d:=((oP _).1 h.2.2.2.2.1).2.1
 have e:M<18446744073709551616:=by decide
 omega
theorem Kc (a:Int)(w:World):Calls prog 126 #[J (a)] w fun r w'=>r= .returned (.bool false)/\Le w w':=by
 refine En func126 Z (WC.sr (Yn 1 Z (W.nx (WC.sr (Yn 4 Z (W.nx (WC.ret (E.iC Z Z ?_))))))))
 exact⟨by simp,(Le.refl w)⟩
theorem rC (a b:Int)(w:World):Calls prog 74 #[J a,J (b)] w fun r w'=>r= .returned (J (pJ a b))/\Le w w':=by
 refine En func74 Z (Rn 1 Z (Rr 1 Z (Yc Z (Kc a w) fun f i=>Yx 1 Z (Rr 1 Z (Yc Z (Kc b f) fun k j=>?_)))))
 have e:=((Le.refl w).trans i).trans j
 refine Yx 1 Z (Sq (Rn 1 Z (Cf Z (Sn (Sq (Rn 1 Z (Cf Z (Sn (Sq ?_)))))))))
 refine Rn 3 Z ?_
 by_cases c:a<b
 ·refine Cy Z (dT c) (Rn 1 Z (Rt (E.il (E.iC Z Z ?_))))
  exact⟨(by first|rfl|(simp[pJ,c];done)|(simp[pJ,c];omega)|(simp[pJ,c];split<;>first|(exfalso;omega)|(simp;done)|(simp;omega))),e⟩
 refine Cn Z (dF c) (Sn (Sq (Rn 3 Z ?_)))
 by_cases d:b<a
 ·refine Cy Z (dT d) (Rn 1 Z (Rt (E.il (E.iC Z Z ?_))))
  exact⟨(by first|rfl|(simp[pJ,c,d];done)|(simp[pJ,c,d];omega)|(simp[pJ,c,d];split<;>first|(exfalso;omega)|(simp;done)|(simp;omega))),e⟩
 refine Cn Z (dF d) (Sn (Ry 1 Z Z Z ?_))
 exact⟨(by first|rfl|(simp[pJ,c,d];done)|(simp[pJ,c,d];omega)|(simp[pJ,c,d];split<;>first|(exfalso;omega)|(simp;done)|(simp;omega))),e⟩
variable {n:Nat}
theorem R8 {xs:List Int}(w:World)(hV:Vec w iv 1 A n xs)(hn:n<=1000000):Calls prog 73 #[.slice A n c] w fun r w'=>r= .returned (J (ZA xs))/\Le w w':=by
 have hl:=hV.1
 refine En func73 Z (Rn 1 Z (Rn 1 Z (Sq (Rn 3 Z (Bk (WC.loop (ι:=Nat) (fun k=>[(3,J 0),(6,.slice A n c),(7,J (n:Int)),(8,J (k:Int))]) (fun k f=>(k<=n)/\(∀j,j<k->xs.getD j 0=0)/\Le w f/\w.heap.size<=f.heap.size) (fun k=>n-k) 0 ?_ ?_ ?_))))))
 ·exact .of Z
 ·exact⟨Nat.zero_le _,fun j hj=>absurd hj (Nat.not_lt_zero _),(Le.refl w),Nat.le_refl _⟩
 rintro k f ⟨hk,hz,d,l⟩
 refine Rn 1 Z (Sq ?_)
 by_cases i:(k:Int)<(n:Int)
 ·refine Cy Z (dT i) (Nb (Sr (Ys k Z (hV.isSome iQ (by omega)) (Wr (.o9 (v:= J (xs.getD k 0)) yH Z (hV.le d) iQ (jN xs 0 (by omega)) Z) Z (Yx 1 Z (Rn 3 Z ?_))))))
  by_cases e:(xs.getD k 0)≠0
  ·refine Cy Z (dT e) (Rn 2 Z (Rt (E.jc (E.il (E.il (E.jc (E.il (E.iC Z Z ?_))))))))
   exact⟨by rw[Iq xs k hz,List.drop_eq_getElem_cons (by omega),ZA,if_pos (by simpa[List.getD,show k<xs.length by omega]using e)];simp[List.getD,show k<xs.length by omega],d⟩
  refine Cn Z (dF e) (WC.skip (Lp 1 Z Z (E.again (k+1) (.of Z) ?_ ?_)))
  ·exact⟨by omega,fun j hj=>by rcases Nat.lt_or_ge j k with h|h;exact hz j h;rw[show j=k by omega];exact Decidable.not_not.1 e,d,by have:=l;omega⟩
  first|omega|(simp only[];omega)
 refine Cn Z (dF i) (Ex (Ry 2 Z Z Z ?_))
 exact⟨by rw[Iq xs k hz,List.drop_of_length_le (by omega)];rfl,d⟩
theorem Oi (n lo hi:Int){g1 g2:Nat}(w:World)(hg1:ik w g1 3 #[J lo])(hg2:ik w g2 3 #[J hi]):Calls prog 93 #[J n,.pointer (some ⟨g1,0,none⟩),.pointer (some ⟨g2,0,none⟩)] w fun r w'=>r= .returned (.bool (!l7 n lo hi))/\Le w w':=by
 refine En func93 Z ?_
 have c:=Le.refl w
 refine Rn 1 Z (Rr 1 Z (Yk (J lo) Z (hg1.le c) Z (Yn 1 Z ?_)))
 by_cases d:n<lo
 ·refine Dt d Z Z (Yy 5 Z Z Z ?_)
  exact⟨rB (by rw[Bool.eq_iff_iff];simp[l7];omega),c⟩
 refine Df d Z Z (Yn 1 Z (Yk (J hi) Z (hg2.le c) Z (Yy 3 Z Z Z ?_)))
 exact⟨rB (by rw[Bool.eq_iff_iff];simp[l7];omega),c⟩
variable {F:Nat}{tL:Array Value}
theorem Ql {xs:List Int}(pr:Int->Bool)(hgo:o8 prog F)(w:World)(hV:Vec w iv 1 A n xs)(hn:n<=1000000)(hf:∀(i:Int) (w1:World),Le w w1->Calls prog F (#[J i]++tL) w1 fun r w2=>r= .returned (.bool (pr i))/\Le w1 w2):Calls prog 95 #[.slice A n c,.func (.func F) #[] tL] w fun r w'=>r= .returned (J (Qj pr xs))/\Le w w':=by
 have hl:=hV.1
 refine En func95 Z (Rn 1 Z (Sq (Rn 3 Z (Bk (WC.loop (ι:=Nat) (fun k=>[(0,.slice A n c),(1,.func (.func F) #[] tL),(7,J (n:Int)),(8,J (k:Int))]) (fun k f=>(k<=n)/\(∀j,j<k->¬pr (xs.getD j 0)=true)/\Le w f/\w.heap.size<=f.heap.size) (fun k=>n-k) 0 ?_ ?_ ?_)))))
 ·exact .of Z
 ·exact⟨Nat.zero_le _,fun j hj=>absurd hj (Nat.not_lt_zero _),(Le.refl w),Nat.le_refl _⟩
 rintro k f ⟨hk,hz,d,s⟩
 refine Rn 1 Z (Sq ?_)
 by_cases l:(k:Int)<(n:Int)
 ·refine Cy Z (dT l) (Nb (Rn 2 Z (Rr 3 Z (Ys k Z (hV.isSome iQ (by omega)) (Wr (.o9 (v:= J (xs.getD k 0)) yH Z (hV.le d) iQ (jN xs 0 (by omega)) Z) Z (W.ef Z Z Z (Ef.yV hgo Z Z Z (hf _ _ d) ?_)))))))
  rintro _ u ⟨rfl,m⟩
  refine⟨_,rfl,?_⟩
  have o:=d.trans m
  refine Nx ?_
  by_cases e:(pr (xs.getD k 0))=true
  ·refine Cy Z e (Rn 2 Z (Rt (E.jc (E.il (E.il (E.jc (E.il (E.iC Z Z ?_))))))))
   exact⟨by rw[aaY (by omega) hz e],o⟩
  refine Cn Z (Bool.eq_false_iff.2 e) (WC.skip (Lp 1 Z Z (E.again (k+1) (.of Z) ?_ ?_)))
  ·exact⟨by omega,fun j hj=>by rcases Nat.lt_or_ge j k with h|h;exact hz j h;rw[show j=k by omega];exact e,o,by have:=s;have:=m.size;omega⟩
  first|omega|(simp only[];omega)
 refine Cn Z (dF l) (Ex (Ry 1 Z Z Z ?_))
 exact⟨by rw[aaZ (k:=k) (by omega) (fun j t _=>hz j t)],d⟩
theorem LB {xs:List Int}(pr:Int->Bool)(hgo:o8 prog F)(w:World)(hV:Vec w iv 1 A n xs)(hn:n<=1000000)(hf:∀(i:Int) (w1:World),Le w w1->Calls prog F (#[J i]++tL) w1 fun r w2=>r= .returned (.bool (pr i))/\Le w1 w2):Calls prog 47 #[.slice A n c,.func (.func F) #[] tL] w fun r w'=>r= .returned (.bool (xs.any pr))/\Le w w':=by
 have hl:=hV.1
 refine En func47 Z ?_
 have d:=Le.refl w
 refine Rn 1 Z (Rr 2 Z (Yc Z (Ql pr hgo w (hV.le d) hn hf) fun j e=>?_))
 have f:=d.trans e
 refine Yy 2 Z Z Z ?_
 exact⟨by rw[<-XO],f⟩
theorem Ir (lo hi:Int){A:Option Addr}{n c:Nat}{xs:List Int}(w:World)(hV:Vec w iv 1 A n xs)(hn:n<=1000000):Calls prog 43 #[J lo,J hi,.slice A n c] w fun r w'=>r= .returned (.bool (xs.all fun n=>l7 n lo hi))/\Le w w':=by
 have hl:=hV.1
 refine En func43 Z (Sr (W.ef Z Z Z (Ef.box Z fun i j v (k:ik j i 3 #[J (lo)]) l=>W.ef Z Z Z (Ef.box Z fun m d x (o:ik d m 3 #[J (hi)]) e=>?_))))
 have f:=((Le.refl w).trans l).trans e
 refine Yx 1 Z (Rr 1 Z (Wa (.makeFunc Z) Z (Yc Z (LB (fun n=> !l7 n lo hi) ah5 d (hV.le f) (by omega) (fun n s hl=>Oi n lo hi s ((k.le e).le hl) (o.le hl))) fun y t=>?_)))
 have u:=f.trans t
 refine Yy 2 Z Z Z ?_
 exact⟨by rw[<-aa0],u⟩
theorem nE (lo hi:Int){A:Option Addr}{c:Nat}{a:Int}(w:World)(hV:Vec w iv 1 A 1 [a]):Calls prog 43 #[J lo,J hi,.slice A 1 c] w fun r w'=>r= .returned (.bool (l7 a lo hi))/\Le w w':=by
 have:=Ir lo hi (c:=c) w hV (by decide)
 simpa using this
theorem LC (lo hi:Int){A:Option Addr}{c:Nat}{a b:Int}(w:World)(hV:Vec w iv 1 A 2 [a,b]):Calls prog 43 #[J lo,J hi,.slice A 2 c] w fun r w'=>r= .returned (.bool (l7 a lo hi&&l7 b lo hi))/\Le w w':=by
 have:=Ir lo hi (c:=c) w hV (by decide)
 simpa using this
theorem Oj (c:mF)(hc:E5 c)(w:World):Calls prog 114 #[.agg (jl c).toArray] w fun r w'=>r= .returned (.bool true)/\Le w w':=by
 have aiI:=aa1 hc
 have hf:=hc;unfold E5 at hf
 have S:=hf.2.2.2.2.1
 have an:=hf.2.2.2.2.2
 refine En func114 Z (Sr (Yv Z fun U s ao (t:ik s U 83 (jl c).toArray) V=>Yx 1 Z (Rr 1 Z (Yk (J c.fr) Z t Z (W.ef Z Z Z (Ef.iw (len:=1) [_] underlying48 Je Z (by simp[Value.cells]) Z (by decide) (by decide) ?_))))))
 intro u d X e x
 have e:ik d u 3 (([c.fr]).map iv).flatten.toArray:=e
 have Y:iy d s.heap.size 3 iv 1 (some ⟨u,0,none⟩) 1 1 ([c.fr]):=e.j4 X iQ Z Z (by decide)
 refine Yc Z (by have k:=nE (c:=1) 0 1 d Y.vec;rw[A9 (n:=c.fr) (lo:=0) (hi:=1) (by omega)]at k;exact k) fun aa y=>?_
 refine Yn 2 Z ?_
 have A:=(t.le (x.trans y))
 refine Yk (J c.id) Z A Z (W.MN Z Z Z Z Z Z (Ef.iw (len:=1) [_] underlying48 Je Z (by simp[Value.cells]) Z (by decide) (by decide) ?_))
 intro B f ac i C
 have i:ik f B 3 (([c.id]).map iv).flatten.toArray:=i
 have ad:iy f aa.heap.size 3 iv 1 (some ⟨B,0,none⟩) 1 1 ([c.id]):=i.j4 ac iQ Z Z (by decide)
 refine Yc Z (by have k:=nE (c:=1) 1 1048576 f ad.vec;rw[A9 (n:=c.id) (lo:=1) (hi:=1048576) (by omega)]at k;exact k) fun ae D=>?_
 refine Yn 3 Z ?_
 have F:=(A.le (C.trans D))
 refine Yk (J c.am) Z F Z (W.MN Z Z Z Z Z Z (Ef.iw (len:=1) [_] underlying48 Je Z (by simp[Value.cells]) Z (by decide) (by decide) ?_))
 intro H j af l I
 have l:ik j H 3 (([c.am]).map iv).flatten.toArray:=l
 have ah:iy j ae.heap.size 3 iv 1 (some ⟨H,0,none⟩) 1 1 ([c.am]):=l.j4 af iQ Z Z (by decide)
 refine Yc Z (by have k:=nE (c:=1) 1 1125899906842624 j ah.vec;rw[A9 (n:=c.am) (lo:=1) (hi:=1125899906842624) (by omega)]at k;exact k) fun ai K=>?_
 refine Yn 3 Z ?_
 have L:=(F.le (I.trans K))
 refine Yk (J c.ex) Z L Z (W.MN Z Z Z Z Z Z (Ef.iw (len:=1) [_] underlying48 Je Z (by simp[Value.cells]) Z (by decide) (by decide) ?_))
 intro N m aj o O
 have o:ik m N 3 (([c.ex]).map iv).flatten.toArray:=o
 have ak:iy m ai.heap.size 3 iv 1 (some ⟨N,0,none⟩) 1 1 ([c.ex]):=o.j4 aj iQ Z Z (by decide)
 refine Yc Z (by have k:=nE (c:=1) 1 1048576 m ak.vec;rw[A9 (n:=c.ex) (lo:=1) (hi:=1048576) (by omega)]at k;exact k) fun al P=>?_
 refine Yn 3 Z ?_
 have Q:=(L.le (O.trans P))
 refine Yk (.int .u64 (c.pt:Int)) Z Q Z (Yc Z (by have k:=lC c.pt (by omega) al;rw[S]at k;exact k) fun ap R=>?_)
 refine Yn 3 Z (Yk (.int .u64 (c.pt:Int)) Z (Q.le R) Z (Yy 3 Z Z Z ?_))
 exact⟨rB (dT (by omega)),(((((((((((Le.refl w).trans V).trans x).trans y).trans C).trans D).trans I).trans K).trans O).trans P).trans R)⟩
theorem Ke (a b:mF)(w:World):Calls prog 115 #[.agg (jl a).toArray,.agg (jl b).toArray] w fun r w'=>r= .returned (J (Qi a b))/\Le w w':=by
 refine En func115 Z (Sr (Yv Z fun s t K (u:ik t s 83 (jl a).toArray) x=>Yv Z fun y A L (B:ik A y 83 (jl b).toArray) f=>Yx 1 Z (Sq (WC.draw [0,1,2,3,5,6,7,8,4,9,10,11,12] mixed (by kernel_rfl) fun C c=>Xn 1 Z ?_))))
 have i:=(u.le (f.trans c))
 refine Xk (J a.fr) Z i Z (Xn 1 Z ?_)
 have j:=(B.le c)
 refine Xk (J b.fr) Z j Z (Xn 1 Z (Xk (J a.id) Z i Z (Xn 1 Z (Xk (J b.id) Z j Z (G.ef Z Z Z Z Z (Ef.call ah1 Z Z (rC a.fr b.fr C) ?_))))))
 rintro _ D ⟨rfl,k⟩
 refine⟨_,rfl,?_⟩
 refine⟨fun _=>k,?_⟩
 refine Xc Z (rC a.id b.id D) fun F l=>G.ef Z Z Z Z Z (Ef.iw (len:=2) [_,_] underlying48 Je Z (by simp[Value.cells]) Z (by decide) (by decide) ?_)
 intro m d H e n
 refine⟨fun _=>n,?_⟩
 have e:ik d m 3 (([(pJ a.fr b.fr),(pJ a.id b.id)]).map iv).flatten.toArray:=e
 have I:iy d F.heap.size 3 iv 1 (some ⟨m,0,none⟩) 2 2 ([(pJ a.fr b.fr),(pJ a.id b.id)]):=e.j4 H iQ Z Z (by decide)
 refine Xc Z (R8 d I.vec (by decide)) fun N o=>Xx 1 Z (Re Z Z ?_)
 exact⟨rfl,((((((((Le.refl w).trans x).trans f).trans c).trans k).trans l).trans n).trans o)⟩
theorem D5 (n lo hi:Int)(w:World):Calls prog 170 #[J n,J lo,J (hi)] w fun r w'=>r= .returned (.bool (l7 n lo hi))/\Le w w':=by
 refine En func170 Z ?_
 have d:=Le.refl w
 refine Rn 1 Z (Rr 3 Z ?_)
 by_cases c:lo<=n
 ·refine Dt c Z Z (Yy 5 Z Z Z ?_)
  exact⟨(by first|rfl|(simp[l7,c];done)|(simp[l7,c];omega)|(simp[l7,c];split<;>first|(exfalso;omega)|(simp;done)|(simp;omega))),d⟩
 refine Df c Z Z (Yy 5 Z Z Z ?_)
 exact⟨(by first|rfl|(simp[l7,c];done)|(simp[l7,c];omega)|(simp[l7,c];split<;>first|(exfalso;omega)|(simp;done)|(simp;omega))),d⟩
theorem Kg (d r de co le mo:Int)(h:(0<=d/\d<=65536)/\(d<=r/\r<=1125899906842624)/\(1<=de/\de<=4096)/\(0<=co/\co<=16)/\(1<=le/\le<=1125899906842624)/\0<=mo/\mo<=1125899906842624)(w:World):Calls prog 128 #[.agg #[J d,J r,J de,J co,J le,J (mo)]] w fun r w'=>r= .returned (.bool true)/\Le w w':=by
 refine En func128 Z (Sr (Yv Z fun B e N (f:ik e B 65 #[J d,J r,J de,J co,J le,J (mo)]) C=>Yx 1 Z (Rn 1 Z (Rr 2 Z (Yk (J d) Z f Z (Yc Z (D5 d 0 65536 e) fun D i=>?_))))))
 by_cases j:(l7 d 0 65536)=true
 ·refine Yq 1 Z j (Yn 2 Z ?_)
  have k:=(f.le i)
  refine Yk (J de) Z k Z (Yc Z (D5 de 1 4096 D) fun F l=>Yn 1 Z ?_)
  by_cases m:(l7 de 1 4096)=true
  ·refine Yq 1 Z m (Yn 2 Z ?_)
   have n:=(k.le l)
   refine Yk (J co) Z n Z (Yc Z (D5 co 0 16 F) fun H o=>Yx 2 Z (Rr 1 Z ?_))
   by_cases s:(l7 co 0 16)=true
   ·refine Yq 1 Z s (Yn 2 Z ?_)
    have c:=(n.le o)
    refine Yk (J r) Z c Z (Yn 1 Z (Yk (J d) Z c Z (Yc Z (D5 r d 1125899906842624 H) fun I t=>Yn 1 Z ?_)))
    by_cases u:(l7 r d 1125899906842624)=true
    ·refine Yq 1 Z u (Yn 2 Z ?_)
     have x:=(c.le t)
     refine Yk (J le) Z x Z (Yc Z (D5 le 1 1125899906842624 I) fun K y=>Yn 1 Z ?_)
     by_cases A:(l7 le 1 1125899906842624)=true
     ·refine Yq 1 Z A (Yn 2 Z (Yk (J mo) Z (x.le y) Z (Yc Z (D5 mo 0 1125899906842624 K) fun O L=>Yy 2 Z Z Z ?_)))
      exact⟨rB (by simp[l7];omega),((((((((Le.refl w).trans C).trans i).trans l).trans o).trans t).trans y).trans L)⟩
     refine Yq 1 Z (Bool.eq_false_iff.2 A) (Yy 6 Z Z Z ?_)
     exfalso;simp only[l7,decide_eq_true_eq]at*;omega
    refine Yq 1 Z (Bool.eq_false_iff.2 u) (Yy 12 Z Z Z ?_)
    exfalso;simp only[l7,decide_eq_true_eq]at*;omega
   refine Yq 1 Z (Bool.eq_false_iff.2 s) (Yy 20 Z Z Z ?_)
   exfalso;simp only[l7,decide_eq_true_eq]at*;omega
  refine Yq 1 Z (Bool.eq_false_iff.2 m) (Yx 6 Z (Ry 22 Z Z Z ?_))
  exfalso;simp only[l7,decide_eq_true_eq]at*;omega
 refine Yq 1 Z (Bool.eq_false_iff.2 j) (Yx 12 Z (Ry 22 Z Z Z ?_))
 exfalso;simp only[l7,decide_eq_true_eq]at*;omega
theorem UE (q:Nat)(hq:rZ q)(w:World):Calls prog 171 #[.int .u64 (q:Int)] w fun r w'=>r= .returned (.bool false)/\Le w w':=by
 have f:=hq.2.2
 have d:=hq.1
 have i:=hq.2.1
 refine En func171 Z (Rn 1 Z (Rr 2 Z ?_))
 by_cases c:(q:Int)=1
 ·refine Dt c Z Z (Yy 5 Z Z Z ?_)
  exfalso;omega
 refine Df c Z Z (Yn 1 Z (Yc Z (lC q (by first|assumption|omega) w) fun j e=>Yy 3 Z Z Z ?_))
 exact⟨rB (by rw[d];rfl),((Le.refl w).trans e)⟩
theorem Qm (hgo:o8 prog F)(w:World)(hV:Vec w su 1 A n xs)(hn:n<=1000000)(hz:∀q∈xs,rZ q)(hf:∀(q:Nat) (w1:World),rZ q->Le w w1->Calls prog F (#[.int .u64 (q:Int)]++tL) w1 fun r w2=>r= .returned (.bool false)/\Le w1 w2):Calls prog 208 #[.slice A n c,.func (.func F) #[] tL] w fun r w'=>r= .returned (J (-1))/\Le w w':=by
 have hl:=hV.1
 refine En func208 Z (Rn 1 Z (Sq (Rn 3 Z (Bk (WC.loop (ι:=Nat) (fun k=>[(0,.slice A n c),(1,.func (.func F) #[] tL),(7,J (n:Int)),(8,J (k:Int))]) (fun k e=>(k<=n)/\Le w e/\w.heap.size<=e.heap.size) (fun k=>n-k) 0 ?_ ?_ ?_)))))
 ·exact .of Z
 ·exact⟨Nat.zero_le _,(Le.refl w),Nat.le_refl _⟩
 rintro k e ⟨hk,d,j⟩
 refine Rn 1 Z (Sq ?_)
 by_cases f:(k:Int)<(n:Int)
 ·refine Cy Z (dT f) (Nb (Rn 2 Z (Rr 3 Z (Ys k Z (hV.isSome iT (by omega)) (Wr (.o9 (v:= .int .u64 (((xs.getD k 0):Nat):Int)) yD Z (hV.le d) iT (jN xs 0 (by omega)) Z) Z (W.ef Z Z Z (Ef.yV hgo Z Z Z (hf _ _ (hz _ (r9 (z:=0) (by omega))) d) ?_)))))))
  rintro _ l ⟨rfl,i⟩
  refine⟨_,rfl,?_⟩
  refine Nx (Cf Z (WC.skip (Lp 1 Z Z (E.again (k+1) (.of Z) ?_ ?_))))
  ·exact⟨by omega,(d.trans i),by have:=j;have:=i.size;omega⟩
  first|omega|(simp only[];omega)
 refine Cn Z (dF f) (Ex (Ry 1 Z Z Z ?_))
 exact⟨rfl,d⟩
theorem Jo (hgo:o8 prog F)(w:World)(hV:Vec w su 1 A n xs)(hn:n<=1000000)(hz:∀q∈xs,rZ q)(hf:∀(q:Nat) (w1:World),rZ q->Le w w1->Calls prog F (#[.int .u64 (q:Int)]++tL) w1 fun r w2=>r= .returned (.bool false)/\Le w1 w2):Calls prog 162 #[.slice A n c,.func (.func F) #[] tL] w fun r w'=>r= .returned (.bool false)/\Le w w':=by
 have hl:=hV.1
 refine En func162 Z ?_
 have d:=Le.refl w
 refine Rn 1 Z (Rr 2 Z (Yc Z (Qm hgo w (hV.le d) hn hz hf) fun f e=>Yq 1 Z (show _=false from by first|decide|rfl) (Yy 1 Z Z Z ?_)))
 exact⟨rfl,(d.trans e)⟩
theorem Iu (b0 b1 b2 b3 b4:Nat)(hb:rZ b0/\rZ b1/\rZ b2/\rZ b3/\rZ b4)(w:World):Calls prog 129 #[.agg #[.int .u64 (b0:Int),.int .u64 (b1:Int),.int .u64 (b2:Int),.int .u64 (b3:Int),.int .u64 (b4:Int)]] w fun r w'=>r= .returned (.bool true)/\Le w w':=by
 have hall:∀q∈[b0,b1,b2,b3,b4],rZ q:=fun q hq=>by simp only[List.mem_cons,List.not_mem_nil,or_false]at hq;rcases hq with rfl|rfl|rfl|rfl|rfl;exact hb.1;exact hb.2.1;exact hb.2.2.1;exact hb.2.2.2.1;exact hb.2.2.2.2
 refine En func129 Z (Sr (Yv Z fun j f t (c:ik f j 62 #[.int .u64 (b0:Int),.int .u64 (b1:Int),.int .u64 (b2:Int),.int .u64 (b3:Int),.int .u64 (b4:Int)]) k=>Yx 1 Z (Rn 1 Z (Rr 1 Z (Yk (.int .u64 (b0:Int)) Z c Z (Yn 1 Z (Yk (.int .u64 (b1:Int)) Z c Z (Yn 1 Z ?_))))))))
 refine Yk (.int .u64 (b2:Int)) Z c Z (Yn 1 Z (Yk (.int .u64 (b3:Int)) Z c Z (Yn 1 Z (Yk (.int .u64 (b4:Int)) Z c Z (W.ef Z Z Z (Ef.iw (len:=5) [_,_,_,_,_] underlying187 wy Z (by simp[Value.cells]) Z (by decide) (by decide) ?_))))))
 intro i d l e m
 have e:ik d i 60 (([b0,b1,b2,b3,b4]).map su).flatten.toArray:=e
 have n:iy d f.heap.size 60 su 1 (some ⟨i,0,none⟩) 5 5 ([b0,b1,b2,b3,b4]):=e.j4 l iT Z Z (by decide)
 refine Yn 1 Z (Yc Z (Jo agb d n.vec (by decide) hall (fun q o hq _=>UE q hq o)) fun u s=>Yy 2 Z Z Z ?_)
 exact⟨rfl,((((Le.refl w).trans k).trans m).trans s)⟩
set_option maxHeartbeats 4000000 in
theorem LD (c:vM) (hc:CO c) (w:World):Calls prog 77 #[.agg (mU c).toArray] w fun r w'=>r= .returned (J 0)/\Le w w':=by
 have ham:=hc.am;have hop:=hc.op;have hpt:=hc.pts
 refine En func77 Z (Sr (Yv Z fun N O ad (d:ik O N 68 (mU c).toArray) P=>?_))
 have l:=(Le.refl w).trans P
 refine Yx 1 Z (Sq (Rr 1 Z (Yk (J c.am) Z d Z (Yn 1 Z ?_))))
 by_cases m:c.am<1
 ·refine Dt m Z Z (Yx 22 Z (Ct Z (Rn 1 Z (Rt (E.il (E.iC Z Z ?_))))))
  exfalso;omega
 refine Df m Z Z (Yn 1 Z (Yk (J c.am) Z d Z (Yn 2 Z ?_)))
 by_cases n:1125899906842624<c.am
 ·refine Dt n Z Z (Yx 17 Z (Ct Z (Rn 1 Z (Rt (E.il (E.iC Z Z ?_))))))
  exfalso;omega
 refine Df n Z Z (Yn 2 Z (Yk (J 0) Z d Z (Yq 1 Z (show _=false from by first|decide|rfl) (Yn 4 Z (Yk (J 0) Z d Z (Yq 1 Z (show _=false from by first|decide|rfl) (Yn 3 Z (Yk (J c.op) Z d Z (Wg (Any.rd (.Lg Z Z (by omega)) _) Z ?_)))))))))
 refine Yq 1 Z (show _=false from by first|decide|rfl) (Yx 1 Z (Cf Z (Sn (Sq (Rr 1 Z (Yb [J 100,J 200,J 5,J 16,J 1,J 1125899906842624,J 100,J 200,J 6,J 16,J 1,J (1125899906842624)] Z d Z (Yx 1 Z (Bk (WC.rounds 3 ?_)))))))))
 refine uo.step (Sr (Yq 1 Z (show _=true from by first|decide|rfl) (Nx (Sq (Ct Z (Nb (Rr 1 Z (Wa (.DU 0 [J 100,J 200,J 5,J 16,J 1,J (1125899906842624)] underlying66 H6 TR Z Z Z (by omega) Z) Z (Yz Z z65 fun o Q R (S:ik Q o 65 #[J 0,J 0,J 0,J 0,J 0,J (0)]) s=>?_)))))))))
 refine Yn 1 Z (Yw Z S (wN Z) ?_)
 intro t e u
 have e:ik t o 65 #[J 100,J 200,J 5,J 16,J 1,J (1125899906842624)]:=e
 refine Nx (Sr (Yh Z e (Yc Z (Kg 100 200 5 16 1 1125899906842624 (by decide) t) fun U x=>Yn 4 Z (Yj 0 Z ?_))))
 have f:=(((d.le s).cn u (by have:=d.lt;omega)).le x)
 refine Yb [.int .u64 (c.p0:Int),.int .u64 (c.p1:Int),.int .u64 (c.p2:Int),.int .u64 (c.p3:Int),.int .u64 (c.p4:Int)] Z f Z (Yc Z (Iu c.p0 c.p1 c.p2 c.p3 c.p4 ⟨hpt.1,hpt.2.1,hpt.2.2.1,hpt.2.2.2.1,hpt.2.2.2.2.1⟩ U) fun ae i=>?_)
 have y:=(((l.trans s).tb u l R).trans x).trans i
 refine Yx 2 Z (Cf Z (WC.skip (E.jD (E.iM (Rg (Wa (.as (.add Z Z (by decide)) Z) Z (Yn 1 Z (W.nil (E.round ?_)))))))))
 refine uo.step (Sr (Yq 1 Z (show _=true from by first|decide|rfl) (Nx (Sq (Ct Z (Nb (Rr 1 Z (Wa (.DU 1 [J 100,J 200,J 6,J 16,J 1,J (1125899906842624)] underlying66 H6 TR Z Z Z (by omega) Z) Z (Yz Z z65 fun A V X (Y:ik V A 65 #[J 0,J 0,J 0,J 0,J 0,J (0)]) B=>?_)))))))))
 refine Yn 1 Z (Yw Z Y (wN Z) ?_)
 intro C j D
 have j:ik C A 65 #[J 100,J 200,J 6,J 16,J 1,J (1125899906842624)]:=j
 refine Nx (Sr (Yh Z j (Yc Z (Kg 100 200 6 16 1 1125899906842624 (by decide) C) fun aa F=>Yn 4 Z (Yj 1 Z ?_))))
 have H:=(((f.le (i.trans B)).cn D (by have:=f.lt;have:=i.size;omega)).le F)
 refine Yb [.int .u64 (c.p5:Int),.int .u64 (c.p6:Int),.int .u64 (c.p7:Int),.int .u64 (c.p8:Int),.int .u64 (c.p9:Int)] Z H Z (Yc Z (Iu c.p5 c.p6 c.p7 c.p8 c.p9 ⟨hpt.2.2.2.2.2.1,hpt.2.2.2.2.2.2.1,hpt.2.2.2.2.2.2.2.1,hpt.2.2.2.2.2.2.2.2.1,hpt.2.2.2.2.2.2.2.2.2⟩ aa) fun ac I=>Yx 2 Z (Cf Z (WC.skip (E.jD (E.iM (Rg (Wa (.as (.add Z Z (by decide)) Z) Z (Yn 1 Z ?_))))))))
 refine W.nil (E.round (uo.step (Sr (Yq 1 Z (show _=false from by first|decide|rfl) (Nx (Sq (Cf Z (Ex (Sq ?_)))))))))
 refine Rr 1 Z (Yj 0 Z (Yn 1 Z ?_))
 have k:=(H.le I)
 refine Yk (J 200) Z k Z (Yn 1 Z (Yj 1 Z (Yn 1 Z (Yk (J 200) Z k Z (Yc Z (Lj 200 200 ac) fun af K=>Yx 5 Z (Rr 5 Z (Yk (J c.am) Z (k.le K) Z (Yx 2 Z ?_))))))))
 by_cases L:c.am<400
 ·refine Cy Z (dT L) (Rn 1 Z (Rt (E.il (E.iC Z Z ?_))))
  exfalso;omega
 refine Cn Z (dF L) (Sn (Ry 1 Z Z Z ?_))
 exact⟨rfl,(((((y.trans B).tb D y X).trans F).trans I).trans K)⟩
theorem Qn (k:Nat)(hk:k<=16)(w:World):Calls prog 166 #[J (k:Int)] w fun r w'=>r= .returned (J (68+8*(k:Int)))/\Le w w':=by
 refine En func166 Z (Rn 1 Z (Sq (Rr 2 Z ?_)))
 by_cases c:(k:Int)<0
 ·refine Dt c Z Z (Yx 3 Z (Ct Z (Rn 1 Z (Rt (E.il (E.iC Z Z ?_))))))
  exfalso;omega
 refine Df c Z Z (Yx 3 Z ?_)
 by_cases d:16<(k:Int)
 ·refine Cy Z (dT d) (Rn 1 Z (Rt (E.il (E.iC Z Z ?_))))
  exfalso;omega
 refine Cn Z (dF d) (Sn (Rr 1 Z (Yp Z (Yp Z (Yy 1 Z Z Z ?_)))))
 exact⟨congrArg (fun i=>Ending.returned (Value.int .i64 i)) (by omega),(Le.refl w)⟩
theorem LG (rt:Int)(k:Nat)(hr:0<=rt/\rt<=1000)(hk:k<=16)(w:World):Calls prog 123 #[J rt,J (k:Int)] w fun r w'=>r= .returned (J (rt*(68+8*(k:Int))))/\Le w w':=by
 have hmul:=Oh hr hk
 refine En func123 Z (Rn 1 Z (Sq (Rr 2 Z ?_)))
 by_cases c:rt<0
 ·refine Dt c Z Z (Yx 3 Z (Ct Z (Rn 1 Z (Rt (E.il (E.iC Z Z ?_))))))
  exfalso;omega
 refine Df c Z Z (Yx 3 Z ?_)
 by_cases d:1000<rt
 ·refine Cy Z (dT d) (Rn 1 Z (Rt (E.il (E.iC Z Z ?_))))
  exfalso;omega
 refine Cn Z (dF d) (Sn (Rr 2 Z (Yc Z (Qn k (by omega) w) fun f e=>Yp Z (Yy 1 Z Z Z ?_))))
 exact⟨rfl,((Le.refl w).trans e)⟩
open Go.Fv Go.KJ
abbrev Byte:=BitVec 8
def jV (h:List Byte):List Value:=(List.range 32).map fun j=>jf (h.getD j 0)
def noH:List Byte:=List.replicate 32 0
theorem kF {h:List Byte}(hl:h.length=32):jV h=h.map jf:=by
 unfold jV
 apply List.ext_getElem
 ·simp[hl]
 ·intro i d c
  have:i<h.length:=by simpa using c
  simp[List.getD,this]
theorem qc:kM jV 32:=⟨fun _=>by simp[jV],fun x v hv=>by obtain⟨j,_,rfl⟩:=List.mem_map.1 hv;rfl,by decide⟩
structure Kt where
 f:Nat
 p:Nat
 l:Nat
 c:Nat
 r:Nat
 ch:List Byte
def CP:Kt:=⟨0,0,0,0,0,noH⟩
def mD (k:Kt):List Value:=[.int .u64 (k.f:Int),.int .u64 (k.p:Int),.int .u64 (k.l:Int),.int .u64 (k.c:Int),.int .u64 (k.r:Int)]++jV k.ch
def pG (k:Kt×Kt):List Value:=mD k.1++mD k.2
structure Bas where
 f:Nat
 p:Nat
 l:Nat
 c:Nat
 r:Nat
def je:Bas:=⟨0,0,0,0,0⟩
def xg (b:Bas):List Value:=[.int .u64 (b.f:Int),.int .u64 (b.p:Int),.int .u64 (b.l:Int),.int .u64 (b.c:Int),.int .u64 (b.r:Int)]
theorem zV (h:List Byte):∀v∈jV h,v.oneCell'=true:=qc.one h
theorem xh:kM mD 37:=⟨fun k=>by simp[mD,jV],fun x v hv=>by
 rcases List.mem_append.1 hv with hv|hv
 ·simp at hv;rcases hv with rfl|rfl|rfl|rfl|rfl<;>rfl
 ·exact zV _ v hv,by decide⟩
theorem qx:kM pG 74:=⟨fun k=>by simp[pG,xh.len],fun x v hv=>(List.mem_append.1 hv).elim (xh.one _ v) (xh.one _ v),by decide⟩
theorem CQ:kM xg 5:=⟨fun _=>rfl,fun x v hv=>by simp[xg]at hv;rcases hv with rfl|rfl|rfl|rfl|rfl<;>rfl,by decide⟩
def XP:List Byte:=[107,105,116]
def lT (seed:List Byte)(n:Nat):List Byte:=tag XP [seed,[BitVec.ofNat 8 n]]
theorem UF (seed:List Byte)(n:Nat):(lT seed n).length=32:=jG _ _
def iq (seed:List Byte):Kt:=⟨kD (lT seed 1),kD (lT seed 2),kD (lT seed 3),kD (lT seed 4),kD (lT seed 5),lT seed 6⟩
def iW (k:Kt):Bas:=⟨base k.f,base k.p,base k.l,base k.c,base k.r⟩
theorem xk (h:k%q≠0):rZ (base k):=⟨jC k,yL h,FV k⟩
theorem uZ (h:List Byte)(hl:h.length=32)(w:World):Calls prog 99 #[.agg (jV h).toArray] w fun e w'=>e= .returned (.int .u64 (kD h:Int))/\Le w w':=by
 rw[kF hl]
 exact XF h hl w
theorem qd (n lo hi:Int)(w:World):Calls prog 152 #[J n,J lo,J (hi)] w fun r w'=>r= .returned (.bool (l7 n lo hi))/\Le w w':=by
 refine En func152 Z ?_
 have d:=Le.refl w
 refine Rn 1 Z (Rr 3 Z ?_)
 by_cases c:lo<=n
 ·refine Dt c Z Z (Yy 5 Z Z Z ?_)
  exact⟨(by first|rfl|(simp[l7,c];done)|(simp[l7,c];omega)|(simp[l7,c];split<;>first|(exfalso;omega)|(simp;done)|(simp;omega))),d⟩
 refine Df c Z Z (Yy 5 Z Z Z ?_)
 exact⟨(by first|rfl|(simp[l7,c];done)|(simp[l7,c];omega)|(simp[l7,c];split<;>first|(exfalso;omega)|(simp;done)|(simp;omega))),d⟩
theorem Fh (d r de co le mo:Int)(h:(0<=d/\d<=65536)/\(d<=r/\r<=1125899906842624)/\(1<=de/\de<=4096)/\(0<=co/\co<=16)/\(1<=le/\le<=1125899906842624)/\0<=mo/\mo<=1125899906842624)(w:World):Calls prog 153 #[.agg #[J d,J r,J de,J co,J le,J (mo)]] w fun r w'=>r= .returned (.bool true)/\Le w w':=by
 refine En func153 Z (Sr (Yv Z fun B e N (f:ik e B 65 #[J d,J r,J de,J co,J le,J (mo)]) C=>Yx 1 Z (Rr 1 Z (Yk (J d) Z f Z (Yc Z (qd d 0 65536 e) fun D i=>?_)))))
 by_cases j:(l7 d 0 65536)=true
 ·refine Yq 1 Z j (Yn 1 Z ?_)
  have c:=(f.le i)
  refine Yk (J r) Z c Z (Yn 1 Z (Yk (J d) Z c Z (Yc Z (qd r d 1125899906842624 D) fun F k=>Yn 1 Z ?_)))
  by_cases l:(l7 r d 1125899906842624)=true
  ·refine Yq 1 Z l (Yn 1 Z ?_)
   have m:=(c.le k)
   refine Yk (J de) Z m Z (Yc Z (qd de 1 4096 F) fun H n=>Yx 2 Z (Rr 1 Z ?_))
   by_cases o:(l7 de 1 4096)=true
   ·refine Yq 1 Z o (Yn 1 Z ?_)
    have s:=(m.le n)
    refine Yk (J co) Z s Z (Yc Z (qd co 0 16 H) fun I t=>Yn 1 Z ?_)
    by_cases u:(l7 co 0 16)=true
    ·refine Yq 1 Z u (Yn 1 Z ?_)
     have x:=(s.le t)
     refine Yk (J le) Z x Z (Yc Z (qd le 1 1125899906842624 I) fun K y=>Yn 1 Z ?_)
     by_cases A:(l7 le 1 1125899906842624)=true
     ·refine Yq 1 Z A (Yn 1 Z (Yk (J mo) Z (x.le y) Z (Yc Z (qd mo 0 1125899906842624 K) fun O L=>Yy 2 Z Z Z ?_)))
      exact⟨rB (by simp[l7];omega),((((((((Le.refl w).trans C).trans i).trans k).trans n).trans t).trans y).trans L)⟩
     refine Yq 1 Z (Bool.eq_false_iff.2 A) (Yy 5 Z Z Z ?_)
     exfalso;simp only[l7,decide_eq_true_eq]at*;omega
    refine Yq 1 Z (Bool.eq_false_iff.2 u) (Yy 10 Z Z Z ?_)
    exfalso;simp only[l7,decide_eq_true_eq]at*;omega
   refine Yq 1 Z (Bool.eq_false_iff.2 o) (Yy 15 Z Z Z ?_)
   exfalso;simp only[l7,decide_eq_true_eq]at*;omega
  refine Yq 1 Z (Bool.eq_false_iff.2 l) (Yx 5 Z (Ry 17 Z Z Z ?_))
  exfalso;simp only[l7,decide_eq_true_eq]at*;omega
 refine Yq 1 Z (Bool.eq_false_iff.2 j) (Yx 12 Z (Ry 17 Z Z Z ?_))
 exfalso;simp only[l7,decide_eq_true_eq]at*;omega
theorem oZ (p:Nat)(hp:rZ p)(w:World):Calls prog 154 #[.int .u64 (p:Int)] w fun r w'=>r= .returned (.bool true)/\Le w w':=by
 have d:=hp.1;have f:=hp.2.1;have i:=hp.2.2
 refine En func154 Z (Rn 1 Z (Rr 1 Z (Yc Z (Ii p (by first|assumption|omega) w) fun j e=>?_)))
 by_cases c:(right p)=true
 ·refine Yq 1 Z c (Yy 4 Z Z Z ?_)
  exact⟨rB (by simp[d];omega),((Le.refl w).trans e)⟩
 refine Yq 1 Z (Bool.eq_false_iff.2 c) (Yy 4 Z Z Z ?_)
 exfalso;first|omega|simp_all
theorem LH (k:Nat)(hk:k<=16)(w:World):Calls prog 204 #[J (k:Int)] w fun r w'=>r= .returned (J (68+8*(k:Int)))/\Le w w':=by
 refine En func204 Z (Rn 1 Z (Sq (Rr 1 Z (Yc Z (qd (k:Int) 0 16 w) fun e d=>Yx 1 Z ?_))))
 by_cases c:(l7 (k:Int) 0 16)=true
 ·refine Cn Z (congrArg not c) (Sn (Rr 1 Z (Yp Z (Yp Z (Yp Z (Yy 1 Z Z Z ?_))))))
  exact⟨congrArg (fun i=>Ending.returned (Value.int .i64 i)) (by omega),((Le.refl w).trans d)⟩
 refine Cy Z (congrArg not (Bool.eq_false_iff.2 c)) (Rn 1 Z (Rt (E.il (E.iC Z Z ?_))))
 exfalso;simp only[l7,decide_eq_true_eq]at*;omega
theorem UG (rt:Int)(k:Nat)(hr:0<=rt/\rt<=1000)(hk:k<=16)(w:World):Calls prog 156 #[J rt,J (k:Int)] w fun r w'=>r= .returned (J (rt*(68+8*(k:Int))))/\Le w w':=by
 have hmul:=Oh hr hk
 refine En func156 Z (Rn 1 Z (Sq (Rr 1 Z (Yc Z (qd rt 0 1000 w) fun d e=>Yx 1 Z ?_))))
 by_cases c:(l7 rt 0 1000)=true
 ·refine Cn Z (congrArg not c) (Sn (Rr 2 Z (Yc Z (LH k (by omega) d) fun i f=>Yp Z (Yy 1 Z Z Z ?_))))
  exact⟨rfl,(((Le.refl w).trans e).trans f)⟩
 refine Cy Z (congrArg not (Bool.eq_false_iff.2 c)) (Rn 1 Z (Rt (E.il (E.iC Z Z ?_))))
 exfalso;simp only[l7,decide_eq_true_eq]at*;omega
theorem UH (ch:vM)(hch:CO ch)(w:World):Calls prog 102 #[.agg (mU ch).toArray] w fun r w'=>r= .returned (J 0)/\Le w w':=by
 have ham:=hch.am;have hop:=hch.op
 obtain⟨k0,k1,k2,k3,k4,k5,k6,k7,k8,k9⟩:=hch.pts
 refine En func102 Z (Sr (Yv Z fun av D aN (F:ik D av 68 (mU ch).toArray) aw=>Yx 1 Z (Sq (Rr 1 Z (Yk (J ch.am) Z F Z (Yc Z (qd ch.am 1 1125899906842624 D) fun ax H=>Yn 1 Z ?_))))))
 by_cases I:(l7 ch.am 1 1125899906842624)=true
 ·refine Yq 1 Z (congrArg not I) (Yn 2 Z ?_)
  have K:=(F.le H)
  refine Yk (J 0) Z K Z (Yc Z (qd 0 0 63 ax) fun ay L=>Yn 2 Z ?_)
  by_cases N:(l7 0 0 63)=true
  ·refine Yq 1 Z (congrArg not N) (Yn 1 Z ?_)
   have O:=(K.le L)
   refine Yk (J ch.op) Z O Z (Yc Z (qd ch.op 0 1 ay) fun aO P=>Yx 2 Z ?_)
   by_cases Q:(l7 ch.op 0 1)=true
   ·refine Cn Z (congrArg not Q) (Sn (Sq (Rn 1 Z (Bk (WC.rounds 3 (uo.step (Sq (Sr (Yq 2 Z (show _=true from by first|decide|rfl) ?_)))))))))
    refine Nx (Ct Z (Nb (Rr 2 Z (Yj 0 Z ?_))))
    have R:=(O.le P)
    refine Yb [.int .u64 (ch.p0:Int),.int .u64 (ch.p1:Int),.int .u64 (ch.p2:Int),.int .u64 (ch.p3:Int),.int .u64 (ch.p4:Int)] Z R Z (W.ab Z z62 TQ (wN Z) fun az S aP (e:ik S az 62 #[.int .u64 (ch.p0:Int),.int .u64 (ch.p1:Int),.int .u64 (ch.p2:Int),.int .u64 (ch.p3:Int),.int .u64 (ch.p4:Int)]) U=>Nx (Rr 1 Z (Yk (.int .u64 (ch.p0:Int)) Z e Z (Yn 1 Z (Yk (.int .u64 (ch.p1:Int)) Z e Z (Yn 1 Z (Yk (.int .u64 (ch.p2:Int)) Z e Z (Yn 1 Z ?_))))))))
    refine Yk (.int .u64 (ch.p3:Int)) Z e Z (Yn 1 Z (Yk (.int .u64 (ch.p4:Int)) Z e Z (W.ef Z Z Z (Ef.iw (len:=5) [_,_,_,_,_] underlying187 wy Z (by simp[Value.cells]) Z (by decide) (by decide) ?_))))
    intro V i aA j X
    have j:ik i V 60 (([ch.p0,ch.p1,ch.p2,ch.p3,ch.p4]).map su).flatten.toArray:=j
    have c:iy i S.heap.size 60 su 1 (some ⟨V,0,none⟩) 5 5 ([ch.p0,ch.p1,ch.p2,ch.p3,ch.p4]):=j.j4 aA iT Z Z (by decide)
    refine Yx 1 Z (Sq (Rr 2 Z (Yj 0 Z ?_)))
    have Y:=(R.le (U.trans X))
    refine Yb [J 100,J 200,J 5,J 16,J 1,J (1125899906842624)] Z Y Z (Yc Z (Fh 100 200 5 16 1 1125899906842624 (by decide) i) fun aB k=>Yx 1 Z (Cf Z (Sn (Rn 1 Z (Bk (WC.rounds 6 (uo.step (Sq ?_))))))))
    refine Sr (Yq 2 Z (show _=true from by first|decide|rfl) (Nx (Ct Z (Nb (Rr 2 Z (Ys 0 Z (c.vec.isSome iT (by omega)) ?_))))))
    have aa:=(c.le k)
    refine Wr (.o9 (v:= .int .u64 (((([ch.p0,ch.p1,ch.p2,ch.p3,ch.p4]).getD 0 0):Nat):Int)) yD Z aa.vec iT (jN ([ch.p0,ch.p1,ch.p2,ch.p3,ch.p4]) 0 (by first|omega|(simp only[List.length_cons,List.length_nil];omega))) Z) Z (Yc Z (oZ (([ch.p0,ch.p1,ch.p2,ch.p3,ch.p4]).getD 0 0) (by assumption) aB) fun aC l=>Yx 1 Z (Cf Z (WC.skip (E.jD (E.iM (Rg (Yn 1 Z (Wa (.as (.add Z Z (by decide)) Z) Z ?_))))))))
    refine Yn 1 Z (W.nil (E.round (uo.step (Sq (Sr (Yq 2 Z (show _=true from by first|decide|rfl) (Nx (Ct Z (Nb ?_)))))))))
    refine Rr 2 Z (Ys 1 Z (c.vec.isSome iT (by omega)) ?_)
    have ac:=(aa.le l)
    refine Wr (.o9 (v:= .int .u64 (((([ch.p0,ch.p1,ch.p2,ch.p3,ch.p4]).getD 1 0):Nat):Int)) yD Z ac.vec iT (jN ([ch.p0,ch.p1,ch.p2,ch.p3,ch.p4]) 0 (by first|omega|(simp only[List.length_cons,List.length_nil];omega))) Z) Z (Yc Z (oZ (([ch.p0,ch.p1,ch.p2,ch.p3,ch.p4]).getD 1 0) (by assumption) aC) fun aD m=>Yx 1 Z (Cf Z (WC.skip (E.jD (E.iM (Rg (Yn 1 Z (Wa (.as (.add Z Z (by decide)) Z) Z ?_))))))))
    refine Yn 1 Z (W.nil (E.round (uo.step (Sq (Sr (Yq 2 Z (show _=true from by first|decide|rfl) (Nx (Ct Z (Nb ?_)))))))))
    refine Rr 2 Z (Ys 2 Z (c.vec.isSome iT (by omega)) ?_)
    have ad:=(ac.le m)
    refine Wr (.o9 (v:= .int .u64 (((([ch.p0,ch.p1,ch.p2,ch.p3,ch.p4]).getD 2 0):Nat):Int)) yD Z ad.vec iT (jN ([ch.p0,ch.p1,ch.p2,ch.p3,ch.p4]) 0 (by first|omega|(simp only[List.length_cons,List.length_nil];omega))) Z) Z (Yc Z (oZ (([ch.p0,ch.p1,ch.p2,ch.p3,ch.p4]).getD 2 0) (by assumption) aD) fun aE n=>Yx 1 Z (Cf Z (WC.skip (E.jD (E.iM (Rg (Yn 1 Z (Wa (.as (.add Z Z (by decide)) Z) Z ?_))))))))
    refine Yn 1 Z (W.nil (E.round (uo.step (Sq (Sr (Yq 2 Z (show _=true from by first|decide|rfl) (Nx (Ct Z (Nb ?_)))))))))
    refine Rr 2 Z (Ys 3 Z (c.vec.isSome iT (by omega)) ?_)
    have ae:=(ad.le n)
    refine Wr (.o9 (v:= .int .u64 (((([ch.p0,ch.p1,ch.p2,ch.p3,ch.p4]).getD 3 0):Nat):Int)) yD Z ae.vec iT (jN ([ch.p0,ch.p1,ch.p2,ch.p3,ch.p4]) 0 (by first|omega|(simp only[List.length_cons,List.length_nil];omega))) Z) Z (Yc Z (oZ (([ch.p0,ch.p1,ch.p2,ch.p3,ch.p4]).getD 3 0) (by assumption) aE) fun aF o=>Yx 1 Z (Cf Z (WC.skip (E.jD (E.iM (Rg (Yn 1 Z (Wa (.as (.add Z Z (by decide)) Z) Z ?_))))))))
    refine Yn 1 Z (W.nil (E.round (uo.step (Sq (Sr (Yq 2 Z (show _=true from by first|decide|rfl) (Nx (Ct Z (Nb ?_)))))))))
    refine Rr 2 Z (Ys 4 Z (c.vec.isSome iT (by omega)) (Wr (.o9 (v:= .int .u64 (((([ch.p0,ch.p1,ch.p2,ch.p3,ch.p4]).getD 4 0):Nat):Int)) yD Z (ae.le o).vec iT (jN ([ch.p0,ch.p1,ch.p2,ch.p3,ch.p4]) 0 (by first|omega|(simp only[List.length_cons,List.length_nil];omega))) Z) Z (Yc Z (oZ (([ch.p0,ch.p1,ch.p2,ch.p3,ch.p4]).getD 4 0) (by assumption) aF) fun aQ af=>Yx 1 Z (Cf Z (WC.skip (E.jD (E.iM (Rg ?_))))))))
    refine Yn 1 Z (Wa (.as (.add Z Z (by decide)) Z) Z (Yn 1 Z (W.nil (E.round (uo.step (Sq (Sr (Yq 2 Z (show _=false from by first|decide|rfl) (Nx ?_)))))))))
    refine Cf Z (WC.exit (E.jW (E.jW (E.rQ (E.jD (E.iM (Rg (Yn 1 Z (Wa (.as (.add Z Z (by decide)) Z) Z ?_)))))))))
    refine Yn 1 Z (W.nil (E.round (uo.step (Sq (Sr (Yq 2 Z (show _=true from by first|decide|rfl) (Nx (Ct Z (Nb ?_)))))))))
    refine Rr 2 Z (Yj 1 Z ?_)
    have ah:=(Y.le (k.trans (l.trans (m.trans (n.trans (o.trans af))))))
    refine Yb [.int .u64 (ch.p5:Int),.int .u64 (ch.p6:Int),.int .u64 (ch.p7:Int),.int .u64 (ch.p8:Int),.int .u64 (ch.p9:Int)] Z ah Z (W.ab Z z62 TQ (wN Z) fun aG ai aR (f:ik ai aG 62 #[.int .u64 (ch.p5:Int),.int .u64 (ch.p6:Int),.int .u64 (ch.p7:Int),.int .u64 (ch.p8:Int),.int .u64 (ch.p9:Int)]) aj=>Nx (Rr 1 Z (Yk (.int .u64 (ch.p5:Int)) Z f Z (Yn 1 Z (Yk (.int .u64 (ch.p6:Int)) Z f Z (Yn 1 Z (Yk (.int .u64 (ch.p7:Int)) Z f Z (Yn 1 Z ?_))))))))
    refine Yk (.int .u64 (ch.p8:Int)) Z f Z (Yn 1 Z (Yk (.int .u64 (ch.p9:Int)) Z f Z (W.ef Z Z Z (Ef.iw (len:=5) [_,_,_,_,_] underlying187 wy Z (by simp[Value.cells]) Z (by decide) (by decide) ?_))))
    intro ak s aH t al
    have t:ik s ak 60 (([ch.p5,ch.p6,ch.p7,ch.p8,ch.p9]).map su).flatten.toArray:=t
    have d:iy s ai.heap.size 60 su 1 (some ⟨ak,0,none⟩) 5 5 ([ch.p5,ch.p6,ch.p7,ch.p8,ch.p9]):=t.j4 aH iT Z Z (by decide)
    refine Yx 1 Z (Sq (Rr 2 Z (Yj 1 Z ?_)))
    have an:=(ah.le (aj.trans al))
    refine Yb [J 100,J 200,J 6,J 16,J 1,J (1125899906842624)] Z an Z (Yc Z (Fh 100 200 6 16 1 1125899906842624 (by decide) s) fun aI u=>Yx 1 Z (Cf Z (Sn (Rn 1 Z (Bk (WC.rounds 6 (uo.step (Sq ?_))))))))
    refine Sr (Yq 2 Z (show _=true from by first|decide|rfl) (Nx (Ct Z (Nb (Rr 2 Z (Ys 0 Z (d.vec.isSome iT (by omega)) ?_))))))
    have ao:=(d.le u)
    refine Wr (.o9 (v:= .int .u64 (((([ch.p5,ch.p6,ch.p7,ch.p8,ch.p9]).getD 0 0):Nat):Int)) yD Z ao.vec iT (jN ([ch.p5,ch.p6,ch.p7,ch.p8,ch.p9]) 0 (by first|omega|(simp only[List.length_cons,List.length_nil];omega))) Z) Z (Yc Z (oZ (([ch.p5,ch.p6,ch.p7,ch.p8,ch.p9]).getD 0 0) (by assumption) aI) fun aJ x=>Yx 1 Z (Cf Z (WC.skip (E.jD (E.iM (Rg (Yn 1 Z (Wa (.as (.add Z Z (by decide)) Z) Z ?_))))))))
    refine Yn 1 Z (W.nil (E.round (uo.step (Sq (Sr (Yq 2 Z (show _=true from by first|decide|rfl) (Nx (Ct Z (Nb ?_)))))))))
    refine Rr 2 Z (Ys 1 Z (d.vec.isSome iT (by omega)) ?_)
    have ap:=(ao.le x)
    refine Wr (.o9 (v:= .int .u64 (((([ch.p5,ch.p6,ch.p7,ch.p8,ch.p9]).getD 1 0):Nat):Int)) yD Z ap.vec iT (jN ([ch.p5,ch.p6,ch.p7,ch.p8,ch.p9]) 0 (by first|omega|(simp only[List.length_cons,List.length_nil];omega))) Z) Z (Yc Z (oZ (([ch.p5,ch.p6,ch.p7,ch.p8,ch.p9]).getD 1 0) (by assumption) aJ) fun aK y=>Yx 1 Z (Cf Z (WC.skip (E.jD (E.iM (Rg (Yn 1 Z (Wa (.as (.add Z Z (by decide)) Z) Z ?_))))))))
    refine Yn 1 Z (W.nil (E.round (uo.step (Sq (Sr (Yq 2 Z (show _=true from by first|decide|rfl) (Nx (Ct Z (Nb ?_)))))))))
    refine Rr 2 Z (Ys 2 Z (d.vec.isSome iT (by omega)) ?_)
    have aq:=(ap.le y)
    refine Wr (.o9 (v:= .int .u64 (((([ch.p5,ch.p6,ch.p7,ch.p8,ch.p9]).getD 2 0):Nat):Int)) yD Z aq.vec iT (jN ([ch.p5,ch.p6,ch.p7,ch.p8,ch.p9]) 0 (by first|omega|(simp only[List.length_cons,List.length_nil];omega))) Z) Z (Yc Z (oZ (([ch.p5,ch.p6,ch.p7,ch.p8,ch.p9]).getD 2 0) (by assumption) aK) fun aL A=>Yx 1 Z (Cf Z (WC.skip (E.jD (E.iM (Rg (Yn 1 Z (Wa (.as (.add Z Z (by decide)) Z) Z ?_))))))))
    refine Yn 1 Z (W.nil (E.round (uo.step (Sq (Sr (Yq 2 Z (show _=true from by first|decide|rfl) (Nx (Ct Z (Nb ?_)))))))))
    refine Rr 2 Z (Ys 3 Z (d.vec.isSome iT (by omega)) ?_)
    have ar:=(aq.le A)
    refine Wr (.o9 (v:= .int .u64 (((([ch.p5,ch.p6,ch.p7,ch.p8,ch.p9]).getD 3 0):Nat):Int)) yD Z ar.vec iT (jN ([ch.p5,ch.p6,ch.p7,ch.p8,ch.p9]) 0 (by first|omega|(simp only[List.length_cons,List.length_nil];omega))) Z) Z (Yc Z (oZ (([ch.p5,ch.p6,ch.p7,ch.p8,ch.p9]).getD 3 0) (by assumption) aL) fun aM B=>Yx 1 Z (Cf Z (WC.skip (E.jD (E.iM (Rg (Yn 1 Z (Wa (.as (.add Z Z (by decide)) Z) Z ?_))))))))
    refine Yn 1 Z (W.nil (E.round (uo.step (Sq (Sr (Yq 2 Z (show _=true from by first|decide|rfl) (Nx (Ct Z (Nb ?_)))))))))
    refine Rr 2 Z (Ys 4 Z (d.vec.isSome iT (by omega)) (Wr (.o9 (v:= .int .u64 (((([ch.p5,ch.p6,ch.p7,ch.p8,ch.p9]).getD 4 0):Nat):Int)) yD Z (ar.le B).vec iT (jN ([ch.p5,ch.p6,ch.p7,ch.p8,ch.p9]) 0 (by first|omega|(simp only[List.length_cons,List.length_nil];omega))) Z) Z (Yc Z (oZ (([ch.p5,ch.p6,ch.p7,ch.p8,ch.p9]).getD 4 0) (by assumption) aM) fun aS au=>Yx 1 Z (Cf Z (WC.skip (E.jD (E.iM (Rg ?_))))))))
    refine Yn 1 Z (Wa (.as (.add Z Z (by decide)) Z) Z (Yn 1 Z (W.nil (E.round (uo.step (Sq (Sr (Yq 2 Z (show _=false from by first|decide|rfl) (Nx ?_)))))))))
    refine Cf Z (WC.exit (E.jW (E.jW (E.rQ (E.jD (E.iM (Rg (Yn 1 Z (Wa (.as (.add Z Z (by decide)) Z) Z ?_)))))))))
    refine Yn 1 Z (W.nil (E.round (uo.step (Sq (Sr (Yq 2 Z (show _=false from by first|decide|rfl) (Nx (Cf Z (Ex ?_)))))))))
    refine Sq (Rr 1 Z (Yj 0 Z (Yn 1 Z ?_)))
    have C:=(an.le (u.trans (x.trans (y.trans (A.trans (B.trans au))))))
    refine Yk (J 200) Z C Z (Yn 1 Z (Yj 1 Z (Yn 1 Z (Yk (J 200) Z C Z (Wa (.as (.add Z Z (by decide)) Z) Z (Yn 1 Z (Yk (J ch.am) Z C Z (Yx 1 Z ?_))))))))
    by_cases c5:ch.am<400
    ·refine Cy Z (dT c5) (Rn 1 Z (Rt (E.il (E.iC Z Z ?_))))
     exfalso;simp only[l7,decide_eq_true_eq]at*;omega
    refine Cn Z (dF c5) (Sn (Ry 1 Z Z Z ?_))
    exact⟨rfl,(((((((((((((((((((((Le.refl w).trans aw).trans H).trans L).trans P).trans U).trans X).trans k).trans l).trans m).trans n).trans o).trans af).trans aj).trans al).trans u).trans x).trans y).trans A).trans B).trans au)⟩
   refine Cy Z (congrArg not (Bool.eq_false_iff.2 Q)) (Rn 1 Z (Rt (E.il (E.iC Z Z ?_))))
   exfalso;simp only[l7,decide_eq_true_eq]at*;omega
  refine Yq 1 Z (congrArg not (Bool.eq_false_iff.2 N)) (Yx 5 Z (Ct Z (Rn 1 Z (Rt (E.il (E.iC Z Z ?_))))))
  exfalso;simp only[l7,decide_eq_true_eq]at*;omega
 refine Yq 1 Z (congrArg not (Bool.eq_false_iff.2 I)) (Yx 12 Z (Ct Z (Rn 1 Z (Rt (E.il (E.iC Z Z ?_))))))
 exfalso;simp only[l7,decide_eq_true_eq]at*;omega
theorem LJ (h:List Byte)(hh:h.length=32){g:Nat}(w:World):Calls prog 150 #[.slice (some ⟨g,0,none⟩) 0 0,.agg (jV h).toArray] w fun r w'=>∃A' c',r= .returned (.slice A' 32 c')/\iy w' w.heap.size 5 jv 1 A' 32 c' h/\Le w w':=by
 rw[kF hh]
 refine (Qb h hh w (tC (iy.nil w 0 0 jv 1 (some ⟨g,0,none⟩)).vec) (by decide) (c:=0)).mono fun r w' hx=>?_
 obtain⟨A',c',rfl,hO,hl⟩:=hx
 exact⟨A',c',by rw[Nat.zero_add],by rw[Nat.zero_add,List.nil_append]at hO;exact DC hO,hl⟩
theorem UI {vs:List Value}{ps:List (List Byte)}{name:ByteArray}(nm:List Byte)(w:World)(hnm:byteCells name=nm.map jf)(hV:Sl w 1 A n vs)(hP:Parts w vs ps)(hT:(kY nm ps).length<=1099511627776):Calls prog 149 #[.string name,.slice A n c] w fun e w'=>e= .returned (.agg (jV (tag nm ps)).toArray)/\Le w w':=by
 rw[kF (jG _ _)]
 exact aaA name nm w hnm hV hP hT
theorem xm (seed:List Byte)(hse:seed.length=32)(j:Nat)(w:World):Calls prog 100 #[.agg (jV seed).toArray,jf (BitVec.ofNat 8 j)] w fun r w'=>r= .returned (.agg (jV (lT seed j)).toArray)/\Le w w':=by
 refine En func100 Z (Sr (Yv Z fun D F aa (H:ik F D 23 (jV seed).toArray) I=>?_))
 have m:=(Le.refl w).trans I
 refine Yz Z z23 fun o t K (L:ik t o 23 (jV noH).toArray) u=>Nx (Sr (W.ef Z Z Z (Ef.oz underlying78 xD fun N x ac ad d=>?_)))
 have ae:iy x t.heap.size 5 jv 1 (some ⟨N,0,none⟩) 0 0 []:=iy.nil _ _ _ _ _ _
 refine Yh Z (H.le (u.trans d)) (Yd Z (LJ seed hse x) ?_)
 rintro _ O ⟨P,Q,rfl,R,y⟩
 refine Yn 1 Z (W.ef Z Z Z (Ef.iw (len:=1) [_] underlying78 xD Z (by simp[Value.cells,jf]) Z (by decide) (by decide) ?_))
 intro e A S f i
 have f:ik A e 5 (([(BitVec.ofNat 8 j)]).map jv).flatten.toArray:=f
 have U:iy A O.heap.size 5 jv 1 (some ⟨e,0,none⟩) 1 1 ([(BitVec.ofNat 8 j)]):=f.j4 S kE Z Z (by decide)
 refine W.ef Z Z Z (Ef.lQ [_,_] underlying266 FC Z (by intro v hv;simp at hv;rcases hv with rfl|rfl<;>rfl) Z (by decide) (by decide) ?_)
 intro V B af k c
 have k:ik B V 78 #[.slice P 32 Q,.slice (some ⟨e,0,none⟩) 1 1]:=k
 refine Yc Z (UI XP (ps:=[seed,[(BitVec.ofNat 8 j)]]) B Z (k.sl (s:=1) (n:=2) Z) (.cons (tC (R.le (i.trans c)).vec) (.cons (tC (U.le c).vec) (.nil _))) (by simp[kY,hse,XP];decide)) fun ah C=>Yw Z (L.le (d.trans (y.trans (i.trans (c.trans C))))) (qc.one (tag XP [seed,[(BitVec.ofNat 8 j)]])) ?_
 intro X l Y
 have l:ik X o 23 (jV (tag XP [seed,[(BitVec.ofNat 8 j)]])).toArray:=l
 refine Nx (Re Z (lV Z l ug (by rfl)) ?_)
 exact⟨rfl,(((((((m.trans u).trans d).trans y).trans i).trans c).trans C).tb Y m K)⟩
theorem R9 (seed:List Byte)(hse:seed.length=32)(w:World):Calls prog 52 #[.agg (jV seed).toArray] w fun r w'=>r= .returned (.agg (mD (iq seed)).toArray)/\Le w w':=by
 refine En func52 Z (Sr (Yv Z fun A B ac (C:ik B A 23 (jV seed).toArray) D=>?_))
 have v:=(Le.refl w).trans D
 refine Yz Z z70 fun x F H (I:ik F x 70 (mD CP).toArray) y=>Nx (Sq (WC.draw [0,3,6,9,12,15,1,2,4,5,7,8,10,11,13,14,16,17,18] mixed (by kernel_rfl) fun K d=>?_))
 have c:=(C.le (y.trans d))
 refine Xh Z c (Xh Z c (Xh Z c (Xh Z c (Xh Z c (Xh Z c (Xc Z (xm seed hse 1 K) fun L e=>Xc Z (uZ (lT seed 1) (by first|assumption|exact jG _ _) L) fun N f=>Xc Z (xm seed hse 2 N) fun O i=>Xc Z (uZ (lT seed 2) (by first|assumption|exact jG _ _) O) fun P j=>?_))))))
 refine Xc Z (xm seed hse 3 P) fun Q k=>Xc Z (uZ (lT seed 3) (by first|assumption|exact jG _ _) Q) fun R l=>Xc Z (xm seed hse 4 R) fun S m=>Xc Z (uZ (lT seed 4) (by first|assumption|exact jG _ _) S) fun U n=>Xc Z (xm seed hse 5 U) fun V o=>Xc Z (uZ (lT seed 5) (by first|assumption|exact jG _ _) V) fun X s=>Xc Z (xm seed hse 6 X) fun ad t=>Ga Z (.iF (mD (⟨kD (lT seed 1),kD (lT seed 2),kD (lT seed 3),kD (lT seed 4),kD (lT seed 5),(lT seed 6)⟩)) ah7 z70 Z Z) (Xw Z (I.le (d.trans (e.trans (f.trans (i.trans (j.trans (k.trans (l.trans (m.trans (n.trans (o.trans (s.trans t)))))))))))) (xh.one (⟨kD (lT seed 1),kD (lT seed 2),kD (lT seed 3),kD (lT seed 4),kD (lT seed 5),(lT seed 6)⟩)) ?_)
 intro Y u aa
 refine noT (by kernel_rfl) ?_
 have u:ik Y x 70 (mD (⟨kD (lT seed 1),kD (lT seed 2),kD (lT seed 3),kD (lT seed 4),kD (lT seed 5),(lT seed 6)⟩)).toArray:=u
 refine Gx (Re Z (lV Z u ahM (by rfl)) ?_)
 exact⟨rfl,((((((((((((((v.trans y).trans d).trans e).trans f).trans i).trans j).trans k).trans l).trans m).trans n).trans o).trans s).trans t).tb aa v H)⟩
theorem Iw (k:Kt)(w:World):Calls prog 53 #[.agg (mD k).toArray] w fun r w'=>r= .returned (.agg (xg (iW k)).toArray)/\Le w w':=by
 refine En func53 Z (Sr (Yv Z fun y A R (B:ik A y 70 (mD k).toArray) C=>?_))
 have t:=(Le.refl w).trans C
 refine Yz Z z62 fun u D F (H:ik D u 62 (xg je).toArray) x=>Nx (Sq (WC.draw [0,1,3,4,6,7,9,10,12,13,2,5,8,11,14,15,16] mixed (by kernel_rfl) fun I e=>Xn 1 Z ?_))
 have d:=(B.le (x.trans e))
 refine Xk (.int .u64 (k.f:Int)) Z d Z (Xn 1 Z (Xk (.int .u64 (k.p:Int)) Z d Z (Xn 1 Z (Xk (.int .u64 (k.l:Int)) Z d Z (Xn 1 Z (Xk (.int .u64 (k.c:Int)) Z d Z (Xn 1 Z (Xk (.int .u64 (k.r:Int)) Z d Z (Xc Z (zi k.f I) fun K i=>?_)))))))))
 refine Xc Z (zi k.p K) fun L j=>Xc Z (zi k.l L) fun N m=>Xc Z (zi k.c N) fun O n=>Xc Z (zi k.r O) fun S o=>Ga Z (.iF (xg (⟨base k.f,base k.p,base k.l,base k.c,base k.r⟩)) agf z62 Z Z) (Xw Z (H.le (e.trans (i.trans (j.trans (m.trans (n.trans o)))))) (CQ.one (⟨base k.f,base k.p,base k.l,base k.c,base k.r⟩)) ?_)
 intro P s Q
 refine noT (by kernel_rfl) ?_
 have s:ik P u 62 (xg (⟨base k.f,base k.p,base k.l,base k.c,base k.r⟩)).toArray:=s
 refine Gx (Re Z (lV Z s afs (by rfl)) ?_)
 exact⟨rfl,((((((((t.trans x).trans e).trans i).trans j).trans m).trans n).trans o).tb Q t F)⟩
structure qZ where
 kA:Option Addr
 kN:Nat
 kC:Nat
 af:Int
 dl:Int
 sec:Nat
structure UJ where
 am:Int
 bA:Option Addr
 bN:Nat
 bC:Nat
abbrev H32:={l:List Byte//l.length=32}
structure Vu where
 id:H32
 no:Int
 deriving DecidableEq
structure Qo where
 op:Vu
 br:Int
 sA:Option Addr
 sN:Nat
 sC:Nat
 sec:Nat
def jJ:qZ:=⟨none,0,0,0,0,0⟩
def oL:UJ:=⟨0,none,0,0⟩
def jh:Vu:=⟨⟨noH,by simp[noH]⟩,0⟩
def iP:Qo:=⟨jh,0,none,0,0,0⟩
def xn (r:qZ):List Value:=[.slice r.kA r.kN r.kC,J r.af,J r.dl,.int .u64 (r.sec:Int)]
def XQ (r:UJ):List Value:=[J r.am,.slice r.bA r.bN r.bC]
def O6 (r:Vu):List Value:=jV r.id.1++[J r.no]
def Qp (r:Qo):List Value:=O6 r.op++[J r.br,.slice r.sA r.sN r.sC,.int .u64 (r.sec:Int)]
theorem kH:kM xn 4:=⟨fun _=>rfl,fun x v hv=>by simp[xn]at hv;rcases hv with rfl|rfl|rfl|rfl<;>rfl,by decide⟩
theorem zW:kM XQ 2:=⟨fun _=>rfl,fun x v hv=>by simp[XQ]at hv;rcases hv with rfl|rfl<;>rfl,by decide⟩
theorem Sa:kM O6 33:=⟨fun x=>by simp[O6,jV],fun x v hv=>by
 rcases List.mem_append.1 hv with hv|hv
 ·exact zV _ v hv
 ·simp at hv;subst hv;rfl,by decide⟩
theorem vN:kM Qp 36:=⟨fun x=>by simp[Qp,Sa.len],fun x v hv=>by
 rcases List.mem_append.1 hv with hv|hv
 ·exact Sa.one _ v hv
 ·simp at hv;rcases hv with rfl|rfl|rfl<;>rfl,by decide⟩
structure Bp where
 keys:List Nat
 af:Int
 dl:Int
 sec:Nat
structure uG where
 am:Int
 bs:List Bp
def sJ:Bp:=⟨[],0,0,0⟩
def qf:uG:=⟨0,[]⟩
structure UK (w:World)(r:qZ)(b:Bp):Prop where
 af:r.af=b.af
 dl:r.dl=b.dl
 sec:r.sec=b.sec
 slt:b.sec<18446744073709551616
 keys:Vec w su 1 r.kA r.kN b.keys
 lt:∀k∈b.keys,k<18446744073709551616
def xq (w:World)(_:Nat)(rs:List qZ)(bs:List Bp):Prop:=rs.length=bs.length/\∀i,i<bs.length->UK w (rs.getD i jJ) (bs.getD i sJ)
structure XR (w:World)(r:UJ)(o:uG):Prop where
 am:r.am=o.am
 few:o.bs.length<=9223372036854775807
 rows:∃rs,Vec w xn 4 r.bA r.bN rs/\xq w 0 rs o.bs
def zo (w:World)(_:Nat)(rs:List UJ)(os:List uG):Prop:=rs.length=os.length/\∀i,i<os.length->XR w (rs.getD i oL) (os.getD i qf)
section
variable {w w':World}{b b':Nat}{r:qZ}{z:Bp}{rs:List qZ}{bs:List Bp}{o:UJ}{y:uG}{os:List UJ}{ys:List uG}
theorem UK.le (h:UK w r z)(k:Le w w'):UK w' r z:=⟨h.1,h.2,h.3,h.4,h.5.le k,h.6⟩
theorem xq.le (h:xq w b rs bs)(k:Le w w'):xq w' b rs bs:=⟨h.1,fun i hi=>(h.2 i hi).le k⟩
theorem XR.le (h:XR w o y)(k:Le w w'):XR w' o y:=⟨h.1,h.2,let⟨q,h1,h2⟩:=h.3;⟨q,h1.le k,h2.le k⟩⟩
theorem zo.le (h:zo w b os ys)(k:Le w w'):zo w' b os ys:=⟨h.1,fun i hi=>(h.2 i hi).le k⟩
theorem xq.mono (h:xq w b rs bs):xq w b' rs bs:=h
theorem zo.mono (h:zo w b os ys):zo w b' os ys:=h
end
def AO (n:Int):Bool:=decide (0<=n)&&decide (n<=1048576)
def Sc (b:Bp):Bool:=decide (b.keys.length<=12)&& !(b.keys.any fun p=> !right p)&&AO b.af&&AO b.dl&&(decide (b.sec=0)||right b.sec)
def uw (l:List Bp):Bool:=l.all Sc&&decide (0<l.length)&&decide (l.length<=4)
def LK (r:Qo):Bool:=decide (0<=r.br)&&decide (r.br<4)&&decide (r.sN<=12)
def xS:Int->List uG->Option Int
 |s,[]=>some s
 |s,o::os=>if(pI s o.am).2&&uw o.bs then xS (pI s o.am).1 os else none
open Go.yA
theorem xq.nil (w:World)(b:Nat):xq w b [] []:=⟨rfl,fun i hi=>absurd hi (Nat.not_lt_zero _)⟩
theorem aa2 (hk:k<xs.length)(hb:∀j,j<k->¬pr (xs.getD j 0)=true)(h:pr (xs.getD k 0)=true):Qk pr xs=(k:Int):=by
 have hx:xs.getD k 0=xs[k]:=by simp[List.getD,hk]
 have:xs.findIdx pr=k:=by
  rw[List.findIdx_eq hk]
  refine⟨by rw[<-hx];exact h,fun j hj=>?_⟩
  have:=hb j hj
  simp only[List.getD,List.getElem?_eq_getElem (show j<xs.length by omega),Option.getD_some]at this
  simpa using this
 rw[Qk,if_pos (by rw[List.any_eq_true];exact⟨xs[k],List.getElem_mem hk,by rw[<-hx];exact h⟩),this]
theorem aa3 (hk:xs.length<=k)(hb:∀j,j<k->¬pr (xs.getD j 0)=true):Qk pr xs= -1:=by
 rw[Qk,UD hk hb];rfl
theorem XT (pr:Nat->Bool)(xs:List Nat):decide (Qk pr xs≥0)=xs.any pr:=by
 unfold Qk;split
 ·rename_i h;rw[h];exact decide_eq_true (by omega)
 ·rename_i h;rw[Bool.not_eq_true]at h;rw[h];rfl
variable {bs:List Bp}
theorem CR (hk:k<bs.length)(h:Sc (bs.getD k sJ)=false):uw bs=false:=by
 unfold uw
 have:bs.all Sc=false:=by
  rw[List.all_eq_false]
  exact⟨_,r9 (z:=sJ) hk,by rw[h];decide⟩
 rw[this];rfl
theorem Ol (h:∀j,j<bs.length->Sc (bs.getD j sJ)=true):uw bs=(decide (0<bs.length)&&decide (bs.length<=4)):=by
 unfold uw
 have:bs.all Sc=true:=by
  rw[List.all_eq_true]
  intro b hb
  obtain⟨j,hj,rfl⟩:=List.mem_iff_getElem.1 hb
  simpa[List.getD,hj]using h j hj
 rw[this];rfl
theorem Iy (h:uw bs=true):bs.length<=4/\∀j,j<bs.length->Sc (bs.getD j sJ)=true:=by
 unfold uw at h
 simp only[Bool.and_eq_true,decide_eq_true_eq,List.all_eq_true]at h
 exact⟨h.2,fun j hj=>h.1.1 _ (r9 (z:=sJ) hj)⟩
theorem CS {b:Bp}(h:Sc b=true):b.keys.length<=12/\¬(b.keys.any fun p=> !right p)=true/\AO b.af=true/\AO b.dl=true/\(b.sec=0\/right b.sec=true):=by
 unfold Sc at h
 simp only[Bool.and_eq_true,Bool.or_eq_true,decide_eq_true_eq,Bool.not_eq_true']at h
 exact⟨h.1.1.1.1,by rw[h.1.1.1.2];decide,h.1.1.2,h.1.2,h.2⟩
theorem acN {r:qZ}{b:Bp}(z:UK w r b)(h1:¬12<(r.kN:Int))(h2:¬(b.keys.any fun p=> !right p)=true)(h3:AO r.af=true)(h4:AO r.dl=true)(h5:r.sec=0\/right r.sec=true):Sc b=true:=by
 have hk:=z.keys.1
 rw[z.af]at h3
 rw[z.dl]at h4
 rw[z.sec]at h5
 unfold Sc
 simp only[Bool.and_eq_true,Bool.or_eq_true,decide_eq_true_eq,Bool.not_eq_true']
 exact⟨⟨⟨⟨by omega,Bool.eq_false_iff.2 h2⟩,h3⟩,h4⟩,h5⟩
theorem Om {b:Bp}(h:Sc b=true):b.keys.length<=12/\0<=b.af/\b.af<=1048576/\0<=b.dl/\b.dl<=1048576:=by
 unfold Sc AO at h
 simp only[Bool.and_eq_true,decide_eq_true_eq]at h
 omega
theorem Qq (pr:Nat->Bool)(hgo:o8 prog F)(w:World)(hV:Vec w su 1 A n xs)(hn:n<=1000000)(hz:∀q∈xs,q<18446744073709551616)(hf:∀(q:Nat) (w1:World),q<18446744073709551616->Le w w1->Calls prog F (#[.int .u64 (q:Int)]++tL) w1 fun r w2=>r= .returned (.bool (pr q))/\Le w1 w2):Calls prog 208 #[.slice A n c,.func (.func F) #[] tL] w fun r w'=>r= .returned (J (Qk pr xs))/\Le w w':=by
 have hl:=hV.1
 refine En func208 Z (Rn 1 Z (Sq (Rn 3 Z (Bk (WC.loop (ι:=Nat) (fun k=>[(0,.slice A n c),(1,.func (.func F) #[] tL),(7,J (n:Int)),(8,J (k:Int))]) (fun k f=>(k<=n)/\(∀j,j<k->¬pr (xs.getD j 0)=true)/\Le w f/\w.heap.size<=f.heap.size) (fun k=>n-k) 0 ?_ ?_ ?_)))))
 ·exact .of Z
 ·exact⟨Nat.zero_le _,fun j hj=>absurd hj (Nat.not_lt_zero _),(Le.refl w),Nat.le_refl _⟩
 rintro k f ⟨hk,hq,d,o⟩
 refine Rn 1 Z (Sq ?_)
 by_cases i:(k:Int)<(n:Int)
 ·refine Cy Z (dT i) (Nb (Rn 2 Z (Rr 3 Z (Ys k Z (hV.isSome iT (by omega)) (Wr (.o9 (v:= .int .u64 (((xs.getD k 0):Nat):Int)) yD Z (hV.le d) iT (jN xs 0 (by omega)) Z) Z (W.ef Z Z Z (Ef.yV hgo Z Z Z (hf _ _ (hz _ (r9 (z:=0) (by omega))) d) ?_)))))))
  rintro _ s ⟨rfl,l⟩
  refine⟨_,rfl,?_⟩
  have m:=d.trans l
  refine Nx ?_
  by_cases e:(pr (xs.getD k 0))=true
  ·refine Cy Z e (Rn 2 Z (Rt (E.jc (E.il (E.il (E.jc (E.il (E.iC Z Z ?_))))))))
   exact⟨by rw[aa2 (by omega) hq e],m⟩
  refine Cn Z (Bool.eq_false_iff.2 e) (WC.skip (Lp 1 Z Z (E.again (k+1) (.of Z) ?_ ?_)))
  ·exact⟨by omega,fun j hj=>by rcases Nat.lt_or_ge j k with h|h;exact hq j h;rw[show j=k by omega];exact e,m,by have:=o;have:=l.size;omega⟩
  first|omega|(simp only[];omega)
 refine Cn Z (dF i) (Ex (Ry 1 Z Z Z ?_))
 exact⟨by rw[aa3 (k:=k) (by omega) hq],d⟩
theorem Jp (pr:Nat->Bool)(hgo:o8 prog F)(w:World)(hV:Vec w su 1 A n xs)(hn:n<=1000000)(hz:∀q∈xs,q<18446744073709551616)(hf:∀(q:Nat) (w1:World),q<18446744073709551616->Le w w1->Calls prog F (#[.int .u64 (q:Int)]++tL) w1 fun r w2=>r= .returned (.bool (pr q))/\Le w1 w2):Calls prog 162 #[.slice A n c,.func (.func F) #[] tL] w fun r w'=>r= .returned (.bool (xs.any pr))/\Le w w':=by
 have hl:=hV.1
 refine En func162 Z ?_
 have d:=Le.refl w
 refine Rn 1 Z (Rr 2 Z (Yc Z (Qq pr hgo w (hV.le d) hn hz hf) fun i e=>?_))
 have f:=d.trans e
 refine Yy 2 Z Z Z ?_
 exact⟨by rw[<-XT],f⟩
theorem Sd (q:Nat)(hq:q<18446744073709551616)(w:World):Calls prog 161 #[.int .u64 (q:Int)] w fun r w'=>r= .returned (.bool (!right q))/\Le w w':=by
 refine En func161 Z (Rn 1 Z (Rr 1 Z (Yc Z (lC q (by first|assumption|omega|decide) w) fun d c=>Yy 2 Z Z Z ?_)))
 exact⟨rfl,((Le.refl w).trans c)⟩
theorem Iz (n:Int)(w:World):Calls prog 163 #[J (n)] w fun r w'=>r= .returned (.bool (AO n))/\Le w w':=by
 refine En func163 Z ?_
 have d:=Le.refl w
 refine Rn 1 Z (Rr 2 Z ?_)
 by_cases c:0<=n
 ·refine Dt c Z Z (Yy 4 Z Z Z ?_)
  exact⟨(by first|rfl|(simp[AO,c];done)|(simp[AO,c];omega)|(simp[AO,c];split<;>first|(exfalso;omega)|(simp;done)|(simp;omega))),d⟩
 refine Df c Z Z (Yy 4 Z Z Z ?_)
 exact⟨(by first|rfl|(simp[AO,c];done)|(simp[AO,c];omega)|(simp[AO,c];split<;>first|(exfalso;omega)|(simp;done)|(simp;omega))),d⟩
theorem D6 {rs:List qZ}(w:World)(hV:Vec w xn 4 A n rs)(hB:xq w 0 rs bs)(hn:n<=9223372036854775807):Calls prog 120 #[.agg #[.slice A n c]] w fun r w'=>r= .returned (.bool (uw bs))/\Le w w':=by
 have hl:=hV.1
 have ai:=hB.1
 refine En func120 Z (Sr (Yv Z fun s B aj (C:ik B s 173 #[.slice A n c]) aa=>Yx 1 Z (Rn 1 Z (Sq (Rr 1 Z (Yk (.slice A n c) Z C Z (Yx 2 Z (Bk (WC.loop (ι:=Nat) (fun k=>[(1,.pointer (some ⟨s,0,none⟩)),(3,.func (.func 161) #[] #[]),(7,.slice A n c),(8,J (n:Int)),(9,J (k:Int))]) (fun k l=>(k<=n)/\(∀j,j<k->Sc (bs.getD j sJ)=true)/\Le w l/\B.heap.size<=l.heap.size/\ik l s 173 #[.slice A n c]) (fun k=>n-k) 0 ?_ ?_ ?_)))))))))
 ·exact .of Z
 ·exact⟨Nat.zero_le _,fun j hj=>absurd hj (Nat.not_lt_zero _),((Le.refl w).trans aa),Nat.le_refl _,C⟩
 rintro k l ⟨hk,hq,m,D,o⟩
 refine Rn 1 Z (Sq ?_)
 by_cases F:(k:Int)<(n:Int)
 ·refine Cy Z (dT F) (Nb (Sr ?_))
  have z:=hB.2 k (by omega)
  have za:=z.af;have zd:=z.dl;have zs:=z.sec;have zl:=z.slt;have zk:=z.keys.1;have zz:=z.lt
  refine Ys k Z (hV.isSome kH (by omega)) (Wr (.lX acA Z (hV.le m) kH (jN rs jJ (by omega))) Z (W.ab Z DV NS (kH.one (rs.getD k jJ)) fun ac H ak (t:ik H ac 189 (xn (rs.getD k jJ)).toArray) i=>?_))
  have u:=m.trans i
  refine Nx (Rr 1 Z (Yk (.slice ((rs.getD k jJ).kA) ((rs.getD k jJ).kN) ((rs.getD k jJ).kC)) Z t Z (Yn 2 Z ?_)))
  by_cases I:12<((rs.getD k jJ).kN:Int)
  ·refine Dt I Z Z (Yn 22 Z (W.mh Z Z Z Z Z (W.mh Z Z Z Z Z (W.mh Z Z Z Z Z (W.mh Z Z Z Z Z (Yx 2 Z (Ct Z (Rn 1 Z (Rt ?_)))))))))
   refine E.jc (E.il (E.il (E.jc (E.il (E.iC Z Z ?_)))))
   exact⟨rB (CR (k:=k) (by omega) (Bool.eq_false_iff.2 fun hb=>by obtain⟨e1,e2,e3,e4,e5⟩:=CS hb;rw[<-za]at e3;rw[<-zd]at e4;rw[<-zs]at e5;first|omega|(simp_all;done))).symm,u⟩
  refine Df I Z Z (Yn 1 Z (Yk (.slice ((rs.getD k jJ).kA) ((rs.getD k jJ).kN) ((rs.getD k jJ).kC)) Z t Z (Yn 1 Z (Yc Z (Jp (fun p=> !right p) aga H (z.keys.le u) (by omega) zz (fun q w1 hq _=>Sd q hq w1)) fun ad d=>?_))))
  have K:=u.trans d
  refine Yn 1 Z ?_
  by_cases L:(((bs.getD k sJ).keys).any fun p=> !right p)=true
  ·refine Yq 1 Z L (Yn 16 Z (W.mh Z Z Z Z Z (W.mh Z Z Z Z Z (W.mh Z Z Z Z Z (W.mh Z Z Z Z Z (Yx 2 Z (Ct Z (Rn 1 Z (Rt ?_)))))))))
   refine E.jc (E.il (E.il (E.jc (E.il (E.iC Z Z ?_)))))
   exact⟨rB (CR (k:=k) (by omega) (Bool.eq_false_iff.2 fun hb=>by obtain⟨e1,e2,e3,e4,e5⟩:=CS hb;rw[<-za]at e3;rw[<-zd]at e4;rw[<-zs]at e5;first|omega|(simp_all;done))).symm,K⟩
  refine Yq 1 Z (Bool.eq_false_iff.2 L) (Yn 1 Z ?_)
  have N:=(t.le d)
  refine Yk (J ((rs.getD k jJ).af)) Z N Z (Yc Z (Iz ((rs.getD k jJ).af) ad) fun ae e=>?_)
  have O:=K.trans e
  refine Yn 2 Z ?_
  by_cases P:(AO ((rs.getD k jJ).af))=true
  ·refine Yq 1 Z (congrArg not P) (Yn 1 Z ?_)
   have Q:=(N.le e)
   refine Yk (J ((rs.getD k jJ).dl)) Z Q Z (Yc Z (Iz ((rs.getD k jJ).dl) ae) fun ah f=>?_)
   have x:=O.trans f
   refine Yn 2 Z ?_
   by_cases R:(AO ((rs.getD k jJ).dl))=true
   ·refine Yq 1 Z (congrArg not R) (Yn 1 Z ?_)
    have S:=(Q.le f)
    refine Yk (.int .u64 ((rs.getD k jJ).sec:Int)) Z S Z (Yn 1 Z ?_)
    by_cases U:((rs.getD k jJ).sec:Int)≠0
    ·refine Yq 1 Z (dT U) (Yn 2 Z (Yk (.int .u64 ((rs.getD k jJ).sec:Int)) Z S Z (Yc Z (Sd ((rs.getD k jJ).sec) (by omega) ah) fun al y=>?_)))
     have V:=x.trans y
     refine Wg (Any.rd (.BJ Z Z Z) _) Z (Yx 1 Z ?_)
     by_cases X:right ((rs.getD k jJ).sec)=true
     ·refine Cn Z (congrArg not X) (WC.skip (Lp 1 Z Z (E.again (k+1) (.of Z) ?_ ?_)))
      ·exact⟨by omega,fun j hj=>by rcases Nat.lt_or_ge j k with h|h;exact hq j h;rw[show j=k by omega];exact acN z (by assumption) (by assumption) (by assumption) (by assumption) (by first|exact .inr (by assumption)|exact .inl (by omega)),V,by have:=D;have:=i.size;have:=d.size;have:=e.size;have:=f.size;have:=y.size;omega,(o.le (i.trans (d.trans (e.trans (f.trans y)))))⟩
      first|omega|(simp only[];omega)
     refine Cy Z (congrArg not (Bool.eq_false_iff.2 X)) (Rn 1 Z (Rt (E.jc (E.il (E.il (E.jc (E.il (E.iC Z Z ?_))))))))
     exact⟨rB (CR (k:=k) (by omega) (Bool.eq_false_iff.2 fun hb=>by obtain⟨e1,e2,e3,e4,e5⟩:=CS hb;rw[<-za]at e3;rw[<-zd]at e4;rw[<-zs]at e5;first|omega|(simp_all;done))).symm,V⟩
    refine Yq 1 Z (dF U) (Yn 4 Z (Wg (Any.rd (.AU Z Z Z) _) Z (Yx 1 Z (Cf Z (WC.skip (Lp 1 Z Z ?_))))))
    refine E.again (k+1) (.of Z) ?_ ?_
    ·exact⟨by omega,fun j hj=>by rcases Nat.lt_or_ge j k with h|h;exact hq j h;rw[show j=k by omega];exact acN z (by assumption) (by assumption) (by assumption) (by assumption) (by first|exact .inr (by assumption)|exact .inl (by omega)),x,by have:=D;have:=i.size;have:=d.size;have:=e.size;have:=f.size;omega,(o.le (i.trans (d.trans (e.trans f))))⟩
    first|omega|(simp only[];omega)
   refine Yq 1 Z (congrArg not (Bool.eq_false_iff.2 R)) (Yn 4 Z (W.mh Z Z Z Z Z (W.mh Z Z Z Z Z (W.mh Z Z Z Z Z (W.mh Z Z Z Z Z (Yx 2 Z (Ct Z (Rn 1 Z (Rt ?_)))))))))
   refine E.jc (E.il (E.il (E.jc (E.il (E.iC Z Z ?_)))))
   exact⟨rB (CR (k:=k) (by omega) (Bool.eq_false_iff.2 fun hb=>by obtain⟨e1,e2,e3,e4,e5⟩:=CS hb;rw[<-za]at e3;rw[<-zd]at e4;rw[<-zs]at e5;first|omega|(simp_all;done))).symm,x⟩
  refine Yq 1 Z (congrArg not (Bool.eq_false_iff.2 P)) (Yn 10 Z (W.mh Z Z Z Z Z (W.mh Z Z Z Z Z (W.mh Z Z Z Z Z (W.mh Z Z Z Z Z (Yx 2 Z (Ct Z (Rn 1 Z (Rt ?_)))))))))
  refine E.jc (E.il (E.il (E.jc (E.il (E.iC Z Z ?_)))))
  exact⟨rB (CR (k:=k) (by omega) (Bool.eq_false_iff.2 fun hb=>by obtain⟨e1,e2,e3,e4,e5⟩:=CS hb;rw[<-za]at e3;rw[<-zd]at e4;rw[<-zs]at e5;first|omega|(simp_all;done))).symm,O⟩
 refine Cn Z (dF F) (Ex (Rr 1 Z (Yk (.slice A n c) Z o Z (Yn 2 Z ?_))))
 by_cases Y:0<(n:Int)
 ·refine Dt Y Z Z (Yn 1 Z (Yk (.slice A n c) Z o Z (Yy 4 Z Z Z ?_)))
  exact⟨rB (by rw[Ol (fun j hj=>hq j (by omega))];rw[Bool.eq_iff_iff];simp only[Bool.and_eq_true,decide_eq_true_eq,Bool.false_eq_true,false_iff];omega),m⟩
 refine Df Y Z Z (Yy 6 Z Z Z ?_)
 exact⟨rB (by rw[Ol (fun j hj=>hq j (by omega))];rw[Bool.eq_iff_iff];simp only[Bool.and_eq_true,decide_eq_true_eq,Bool.false_eq_true,false_iff];omega),m⟩
theorem xU {z:α}(h:k<l.length):l.take (k+1)=l.take k++[l.getD k z]:=by
 rw[List.take_add_one]
 simp[List.getD,h]
theorem agx {cs:List mF}{q:Int}(h:k<cs.length)(e:(cs.getD k ag).fr=q):wX (cs.take (k+1)) q=wX (cs.take k) q++[cs.getD k ag]:=by
 unfold wX
 rw[xU (z:=ag) h,List.filter_append,List.filter_cons,if_pos (by simpa using e)]
 rfl
theorem agy {cs:List mF}{q:Int}(h:k<cs.length)(e:¬(cs.getD k ag).fr=q):wX (cs.take (k+1)) q=wX (cs.take k) q:=by
 unfold wX
 rw[xU (z:=ag) h,List.filter_append,List.filter_cons,if_neg (by simpa using e)]
 simp
theorem agz (c:mF):jT [c]=c.am:=by simp[jT]
variable {Dp op:Int}{s:ny}
theorem CU (h:kz Dp op s)(k:Nat):(0<=jT (s.cs.take k)/\jT (s.cs.take k)<=1125899906842624)/\∀q,0<=jT (wX (s.cs.take k) q)/\jT (wX (s.cs.take k) q)<=jT (s.cs.take k):=by
 have d:=h.am1
 have ht:∀c∈s.cs.take k,1<=c.am:=fun c hc=>d c (List.mem_of_mem_take hc)
 have hd:=Lb (l:=s.cs.drop k) fun c hc=>d c (List.mem_of_mem_drop hc)
 have hs:jT s.cs=jT (s.cs.take k)+jT (s.cs.drop k):=by rw[<-lS,List.take_append_drop]
 have:=h.tot
 have:=h.top
 have:=h.Vq
 have:=h.Vr
 exact⟨⟨Lb ht,by omega⟩,fun q=>of_le ht q⟩
theorem IA (h:kz Dp op s){k:Nat}(hk:k<s.cs.length):jT (s.cs.take (k+1))=jT (s.cs.take k)+(s.cs.getD k ag).am/\E5 (s.cs.getD k ag):=⟨by rw[xU (z:=ag) hk,lS,agz],h.fine _ (r9 hk)⟩
theorem adN (cs:List mF)(q:Int)(k:Nat):(wX (cs.take k) q).length<=k:=by
 have:=List.length_filter_le (fun c:mF=>decide (c.fr=q)) (cs.take k)
 unfold wX
 rw[List.length_take]at this
 omega
theorem XU {l:List mF}(h:l.Pairwise Bw){i j:Nat}(hij:i<j)(hj:j<l.length):Bw (l.getD i ag) (l.getD j ag):=by
 rw[List.pairwise_iff_getElem]at h
 have:=h i j (by omega) hj hij
 simpa[List.getD,hj,show i<l.length by omega]using this
theorem zq (cs:List mF)(q:Int):(wX cs q).length<=cs.length:=List.length_filter_le _ _
theorem xV (h:kz Dp op s)(q:Int):0<=jT (wX s.cs q)/\jT (wX s.cs q)<=1125899906842624:=by
 have:=(CU h s.cs.length)
 rw[List.take_length]at this
 exact⟨(this.2 q).1,Int.le_trans (this.2 q).2 this.1.2⟩
theorem h_0 (s:ny){i:Int}(h:i=0):s.h i=s.h0:=by unfold ny.h;rw[if_pos h]
theorem h_1 (s:ny){i:Int}(h:¬i=0):s.h i=s.h1:=by unfold ny.h;rw[if_neg h]
theorem rD (to:Int){s:ny}{Dp op:Int}{A:Option Addr}{n c:Nat}(w:World)(hC:Vec w jl 5 A n s.cs)(hr:kz Dp op s)(hto:0<=to/\to<=1):Calls prog 44 #[.agg #[J s.no,J s.h0,J s.h1,.slice A n c,J (s.rt)],J (to)] w fun r w'=>r= .returned (.tuple #[J ((wX s.cs (1-to)).length:Int),J (jT (wX s.cs (1-to)))])/\Le w w':=by
 have hl:=hC.1;have hlen:=hr.len
 refine En func44 Z (Sr (Yv Z fun x j H (y:ik j x 38 #[J s.no,J s.h0,J s.h1,.slice A n c,J (s.rt)]) B=>Yx 2 Z (Rn 2 Z (Sq (Rr 1 Z (Yk (.slice A n c) Z y Z (Yx 2 Z (Bk (WC.loop (ι:=Nat) (fun k=>[(1,J to),(6,J ((wX (s.cs.take k) (1-to)).length:Int)),(7,J (jT (wX (s.cs.take k) (1-to)))),(11,.slice A n c),(12,J (n:Int)),(13,J (k:Int))]) (fun k d=>(k<=n)/\Le w d/\j.heap.size<=d.heap.size) (fun k=>n-k) 0 ?_ ?_ ?_)))))))))
 ·exact .of Z
 ·exact⟨Nat.zero_le _,((Le.refl w).trans B),Nat.le_refl _⟩
 rintro k d ⟨hk,e,l⟩
 have hpk:=CU hr k;have hpq:=hpk.2 (1-to);have hol:=adN s.cs (1-to) k
 refine Rn 1 Z (Sq ?_)
 by_cases m:(k:Int)<(n:Int)
 ·refine Cy Z (dT m) ?_
  have C:=IA hr (k:=k) (by omega)
  have hpn:=CU hr (k+1)
  have ham:=C.2.2.2.1
  refine Nb (Sr (Ys k Z (hC.isSome iN (by omega)) (Wr (.lX Lh Z (hC.le e) iN (jN s.cs ag (by first|omega|(simp only[List.length_cons,List.length_nil];omega)))) Z (W.ab Z z83 Bl (iN.one (s.cs.getD k ag)) fun D F I (o:ik F D 83 (jl (s.cs.getD k ag)).toArray) f=>?_))))
  have t:=e.trans f
  refine Nx (Rr 1 Z (Yk (J ((s.cs.getD k ag).fr)) Z o Z (Yn 1 Z (Yp Z (Yx 1 Z ?_)))))
  by_cases u:((s.cs.getD k ag).fr)=(1-to)
  ·refine Cy Z (dT u) (WC.draw [0,1,2,3,4,5,6,7] mixed (by kernel_rfl) fun K i=>Xn 1 Z (Xp Z (Xn 2 Z (Xk (J ((s.cs.getD k ag).am)) Z (o.le i) Z (Xp Z (Xn 2 Z (G.nil (Lp 1 Z Z (E.again (k+1) (.cons Z (.cons' Z (int_eq (by rw[agx (by omega) (by omega)];simp)) (.cons' Z (int_eq (by rw[agx (by omega) (by omega)];rw[lS,agz])) (.of Z)))) ?_ ?_)))))))))
   ·exact⟨by omega,(t.trans i),by have:=l;have:=f.size;have:=i.size;omega⟩
   first|omega|(simp only[];omega)
  refine Cn Z (dF u) (WC.skip (Lp 1 Z Z (E.again (k+1) (.cons Z (.cons' Z (int_eq (by rw[agy (by omega) (by assumption)])) (.cons' Z (int_eq (by rw[agy (by omega) (by assumption)])) (.of Z)))) ?_ ?_)))
  ·exact⟨by omega,t,by have:=l;have:=f.size;omega⟩
  first|omega|(simp only[];omega)
 refine Cn Z (dF m) (Ex (Rn 4 Z (Rt (E.lD Z Z Z ?_))))
 have hkn:s.cs.take k=s.cs:=List.take_of_length_le (by omega)
 exact⟨by rw[hkn],e⟩
theorem Kh (w:World)(hC:Vec w jl 5 A n s.cs)(hr:kz Dp op s):Calls prog 116 #[.agg #[J s.no,J s.h0,J s.h1,.slice A n c,J (s.rt)]] w fun r w'=>r= .returned (J (s.h0+s.h1+jT s.cs))/\Le w w':=by
 have hl:=hC.1;have hlen:=hr.len
 have C:=hr.Vq;have D:=hr.Vr
 refine En func116 Z (Sr (Yv Z fun o i F (d:ik i o 38 #[J s.no,J s.h0,J s.h1,.slice A n c,J (s.rt)]) t=>Yx 1 Z (Rr 1 Z (Yi 0 Z (Yk (J s.h0) Z d Z (Yn 1 Z (Yi 1 Z (Yk (J s.h1) Z d Z ?_))))))))
 refine Yp Z (Yx 1 Z (Sq (Rr 1 Z (Yk (.slice A n c) Z d Z (Yx 2 Z (Bk (WC.loop (ι:=Nat) (fun k=>[(3,J (s.h0+s.h1+jT (s.cs.take k))),(14,.slice A n c),(15,J (n:Int)),(16,J (k:Int))]) (fun k e=>(k<=n)/\Le w e/\i.heap.size<=e.heap.size) (fun k=>n-k) 0 ?_ ?_ ?_)))))))
 ·exact .cons' Z (int_eq (by simp[jT])) (.of Z)
 ·exact⟨Nat.zero_le _,((Le.refl w).trans t),Nat.le_refl _⟩
 rintro k e ⟨hk,f,u⟩
 have hpk:=CU hr k
 refine Rn 1 Z (Sq ?_)
 by_cases j:(k:Int)<(n:Int)
 ·refine Cy Z (dT j) ?_
  have l:=IA hr (k:=k) (by omega)
  have hpn:=CU hr (k+1)
  have ham:=l.2.2.2.1
  refine Nb (Sr (Ys k Z (hC.isSome iN (by omega)) (Wr (.lX Lh Z (hC.le f) iN (jN s.cs ag (by first|omega|(simp only[List.length_cons,List.length_nil];omega)))) Z (W.ab Z z83 Bl (iN.one (s.cs.getD k ag)) fun x y H (B:ik y x 83 (jl (s.cs.getD k ag)).toArray) m=>Nx (Rg (Yn 2 Z (Yk (J ((s.cs.getD k ag).am)) Z B Z (Yp Z ?_))))))))
  refine Yn 1 Z (W.nil (Lp 1 Z Z (E.again (k+1) (.cons' Z (int_eq (by rw[l.1];omega)) (.of Z)) ?_ ?_)))
  ·exact⟨by omega,(f.trans m),by have:=u;have:=m.size;omega⟩
  first|omega|(simp only[];omega)
 refine Cn Z (dF j) (Ex (Ry 2 Z Z Z ?_))
 have hkn:s.cs.take k=s.cs:=List.take_of_length_le (by omega)
 exact⟨by rw[hkn],f⟩
theorem Oo (ch:vM){s:ny}{A:Option Addr}{n c:Nat}(w:World)(hC:Vec w jl 5 A n s.cs)(hlen:s.cs.length<=16)(hrt:0<=s.rt/\s.rt<=1000):Calls prog 117 #[.agg (mU ch).toArray,.agg #[J s.no,J s.h0,J s.h1,.slice A n c,J (s.rt)]] w fun r w'=>r= .returned (J (lF s.rt s.cs.length))/\Le w w':=by
 have hl:=hC.1
 have hmul:=Oh hrt hlen
 rw[hl]at hmul hlen ⊢
 refine En func117 Z (Sr (Yv Z fun l m o t f=>Yv Z fun i d u (e:ik d i 38 #[J s.no,J s.h0,J s.h1,.slice A n c,J (s.rt)]) j=>Yx 1 Z (Rr 1 Z (Yk (J s.rt) Z e Z (Yn 1 Z (Yk (.slice A n c) Z e Z (Yn 1 Z ?_)))))))
 refine Yc Z (LG s.rt n (by omega) (by omega) d) fun x k=>Yp Z (Yy 1 Z Z Z ?_)
 exact⟨rfl,((((Le.refl w).trans f).trans j).trans k)⟩
set_option maxHeartbeats 4000000 in
theorem D7 (ch:vM) (hch:CO ch) {s:ny} {A:Option Addr} {n c:Nat} (w:World) (hC:Vec w jl 5 A n s.cs) (hr:kz ch.am ch.op s):Calls prog 60 #[.agg (mU ch).toArray,.agg #[J s.no,J s.h0,J s.h1,.slice A n c,J (s.rt)]] w fun r w'=>r= .returned (.bool true)/\Le w w':=by
 have hl:=hC.1;have hlen:=hr.len
 have hno:=hr.wY;have ck:=hr.Vq;have cm:=hr.Vr;have hrt:=hr.Wy;have hop:=hch.op;have htot:=hr.tot
 refine En func60 Z (Sr (Yv Z fun aa bE co (bF:ik bE aa 68 (mU ch).toArray) bG=>Yv Z fun ac aS cp (bH:ik aS ac 38 #[J s.no,J s.h0,J s.h1,.slice A n c,J (s.rt)]) aT=>Yx 1 Z (Sq (Sr ?_))))
 have f3:=(bF.le aT)
 refine Yh Z f3 (Yc Z (LD ch hch aS) fun bI ad=>Yq 1 Z (show _=false from by first|decide|rfl) (Yn 2 Z ?_))
 have f5:=(bH.le ad)
 refine Yk (J s.no) Z f5 Z (W.MN Z Z Z Z Z Z (Ef.iw (len:=1) [_] underlying48 Je Z (by simp[Value.cells]) Z (by decide) (by decide) ?_))
 intro aU ae bJ af ah
 have af:ik ae aU 3 (([s.no]).map iv).flatten.toArray:=af
 have bK:iy ae bI.heap.size 3 iv 1 (some ⟨aU,0,none⟩) 1 1 ([s.no]):=af.j4 bJ iQ Z Z (by decide)
 refine Yc Z (by have k:=nE (c:=1) 0 1048576 ae bK.vec;rw[A9 (n:=s.no) (lo:=0) (hi:=1048576) (by omega)]at k;exact k) fun bL ai=>?_
 refine Yn 4 Z (Yi 0 Z ?_)
 have f8:=(f5.le (ah.trans ai))
 refine Yk (J s.h0) Z f8 Z (Yn 1 Z (Yi 1 Z (Yk (J s.h1) Z f8 Z (W.MN Z Z Z Z Z Z (Ef.iw (len:=2) [_,_] underlying48 Je Z (by simp[Value.cells]) Z (by decide) (by decide) ?_)))))
 intro aV aj bM ak al
 have ak:ik aj aV 3 (([s.h0,s.h1]).map iv).flatten.toArray:=ak
 have bN:iy aj bL.heap.size 3 iv 1 (some ⟨aV,0,none⟩) 2 2 ([s.h0,s.h1]):=ak.j4 bM iQ Z Z (by decide)
 refine Yc Z (by have k:=LC (c:=2) 0 1125899906842624 aj bN.vec;rw[A9 (n:=s.h0) (lo:=0) (hi:=1125899906842624) (by omega),A9 (n:=s.h1) (lo:=0) (hi:=1125899906842624) (by omega)]at k;exact k) fun bO an=>?_
 refine Yn 4 Z ?_
 have aW:=(f8.le (al.trans an))
 refine Yk (J s.rt) Z aW Z (W.MN Z Z Z Z Z Z (Ef.iw (len:=1) [_] underlying48 Je Z (by simp[Value.cells]) Z (by decide) (by decide) ?_))
 intro aX ao bP ap aq
 have ap:ik ao aX 3 (([s.rt]).map iv).flatten.toArray:=ap
 have bQ:iy ao bO.heap.size 3 iv 1 (some ⟨aX,0,none⟩) 1 1 ([s.rt]):=ap.j4 bP iQ Z Z (by decide)
 refine Yc Z (by have k:=nE (c:=1) 0 1000 ao bQ.vec;rw[A9 (n:=s.rt) (lo:=0) (hi:=1000) (by omega)]at k;exact k) fun bR ar=>?_
 refine Yn 4 Z ?_
 have au:=(aW.le (aq.trans ar))
 refine Yk (.slice A n c) Z au Z (Yx 3 Z ?_)
 by_cases c0:16<(n:Int)
 ·refine Cy Z (dT c0) (Rn 1 Z (Rt (E.il (E.iC Z Z ?_))))
  exfalso;omega
 refine Cn Z (dF c0) (Sn (Sq (Rr 1 Z (Yk (.slice A n c) Z au Z (Yx 2 Z (Bk ?_))))))
 refine WC.loop (ι:=Nat) (fun k=>[(2,.pointer (some ⟨aa,0,none⟩)),(3,.pointer (some ⟨ac,0,none⟩)),(46,.slice A n c),(47,J (n:Int)),(48,J (k:Int))]) (fun k I=>(k<=n)/\Le w I/\bR.heap.size<=I.heap.size/\ik I aa 68 (mU ch).toArray/\ik I ac 38 #[J s.no,J s.h0,J s.h1,.slice A n c,J (s.rt)]) (fun k=>n-k) 0 ?_ ?_ ?_
 ·exact .of Z
 ·exact⟨Nat.zero_le _,((((((((((Le.refl w).trans bG).trans aT).trans ad).trans ah).trans ai).trans al).trans an).trans aq).trans ar),Nat.le_refl _,(f3.le (ad.trans (ah.trans (ai.trans (al.trans (an.trans (aq.trans ar))))))),au⟩
 rintro k I ⟨hk,o,O,e,f⟩
 refine Rn 1 Z (Sq ?_)
 by_cases c1:(k:Int)<(n:Int)
 ·refine Cy Z (dT c1) ?_
  have hfi:=(IA hr (k:=k) (by omega)).2
  have hfr:=hfi.1
  have ham:=hfi.2.2.1.1
  refine Nb (Rr 1 Z (Ys k Z (hC.isSome iN (by omega)) ?_))
  by_cases cq:(s.cs.getD k ag).fr=0
  ·refine Wr (.lX Lh Z (hC.le o) iN (jN s.cs ag (by first|omega|(simp only[List.length_cons,List.length_nil];omega)))) Z (Yz Z z83 fun aY bS bT (bU:ik bS aY 83 (jl ag).toArray) y=>Yn 1 Z (Yw Z bU (iN.one (s.cs.getD k ag)) ?_))
   intro bV av B
   have av:ik bV aY 83 (jl (s.cs.getD k ag)).toArray:=av
   refine Nx (Sq (WC.draw [0,1,2,3,4,5,6,7,8,9,10,11,12,13,14,15,16,17,18,19,20,21,22,23,24,25,26,27,28,29] mixed (by kernel_rfl) fun w6 d=>?_))
   have aZ:=(av.le d)
   refine Xh Z aZ (Xc Z (Oj (s.cs.getD k ag) hfi w6) fun bW t=>?_)
   have aw:=(((o.trans y).tb B o bT).trans d).trans t
   refine Xn 3 Z ?_
   have ax:=(aZ.le t)
   refine Xk (J ((s.cs.getD k ag).am)) Z ax Z (Xn 1 Z (Xk (J ((s.cs.getD k ag).fr)) Z ax Z (Xp Z (Xn 1 Z (Xj 1 Z (Xn 1 Z ?_))))))
   have ay:=(((e.le y).cn B (by have:=e.lt;omega)).le (d.trans t))
   refine Xk (J 1) Z ay Z (Xf 1 Z (Xn 4 Z ?_))
   by_cases K:0<(k:Int)
   ·refine Xq 1 Z (dT K) (Xn 1 Z ?_)
    have a0:=(((f.le y).cn B (by have:=f.lt;omega)).le (d.trans t))
    refine Xk (.slice A n c) Z a0 Z (Xn 1 Z (Xp Z (Xs (k-1) Z (hC.isSome iN (by omega)) (Gdg Z (.lX Lh Z (hC.le aw) iN (jN s.cs ag (by first|omega|(simp only[List.length_cons,List.length_nil];omega)))) (Xh Z ax (Xc Z (Ke (s.cs.getD (k-1) ag) (s.cs.getD k ag) bW) fun cr L=>Xq 1 Z (dF (by have:=Og.2 (XU hr.ord (i:=k-1) (j:=k) (by omega) (by omega));omega)) (F7 Z (.BJ Z Z Z) (Xx 1 Z ?_))))))))
    refine Cf Z (WC.skip (Lp 1 Z Z (E.again (k+1) (.of Z) ?_ ?_)))
    ·exact⟨by omega,(aw.trans L),by have:=O;have:=y.size;have:=B.size;have:=d.size;have:=t.size;have:=L.size;omega,(ay.le L),(a0.le L)⟩
    first|omega|(simp only[];omega)
   refine Xq 1 Z (dF K) (Xn 9 Z (F7 Z (.AU Z Z Z) (Xx 1 Z (Cf Z (WC.skip (Lp 1 Z Z ?_))))))
   have bX:=(((f.le y).cn B (by have:=f.lt;omega)).le (d.trans t))
   refine E.again (k+1) (.of Z) ?_ ?_
   ·exact⟨by omega,aw,by have:=O;have:=y.size;have:=B.size;have:=d.size;have:=t.size;omega,ay,bX⟩
   first|omega|(simp only[];omega)
  refine Wr (.lX Lh Z (hC.le o) iN (jN s.cs ag (by first|omega|(simp only[List.length_cons,List.length_nil];omega)))) Z (Yz Z z83 fun a1 bY bZ (b0:ik bY a1 83 (jl ag).toArray) C=>Yn 1 Z (Yw Z b0 (iN.one (s.cs.getD k ag)) ?_))
  intro b1 az D
  have az:ik b1 a1 83 (jl (s.cs.getD k ag)).toArray:=az
  refine Nx (Sq (WC.draw [0,1,2,3,4,5,6,7,8,9,10,11,12,13,14,15,16,17,18,19,20,21,22,23,24,25,26,27,28,29] mixed (by kernel_rfl) fun w6 d=>?_))
  have a2:=(az.le d)
  refine Xh Z a2 (Xc Z (Oj (s.cs.getD k ag) hfi w6) fun b2 u=>?_)
  have aA:=(((o.trans C).tb D o bZ).trans d).trans u
  refine Xn 3 Z ?_
  have aB:=(a2.le u)
  refine Xk (J ((s.cs.getD k ag).am)) Z aB Z (Xn 1 Z (Xk (J ((s.cs.getD k ag).fr)) Z aB Z (Xp Z (Xn 1 Z (Xj 0 Z (Xn 1 Z ?_))))))
  have aC:=(((e.le C).cn D (by have:=e.lt;omega)).le (d.trans u))
  refine Xk (J 1) Z aC Z (Xf 1 Z (Xn 4 Z ?_))
  by_cases K:0<(k:Int)
  ·refine Xq 1 Z (dT K) (Xn 1 Z ?_)
   have a3:=(((f.le C).cn D (by have:=f.lt;omega)).le (d.trans u))
   refine Xk (.slice A n c) Z a3 Z (Xn 1 Z (Xp Z (Xs (k-1) Z (hC.isSome iN (by omega)) (Gdg Z (.lX Lh Z (hC.le aA) iN (jN s.cs ag (by first|omega|(simp only[List.length_cons,List.length_nil];omega)))) (Xh Z aB (Xc Z (Ke (s.cs.getD (k-1) ag) (s.cs.getD k ag) b2) fun ct N=>Xq 1 Z (dF (by have:=Og.2 (XU hr.ord (i:=k-1) (j:=k) (by omega) (by omega));omega)) (F7 Z (.BJ Z Z Z) (Xx 1 Z ?_))))))))
   refine Cf Z (WC.skip (Lp 1 Z Z (E.again (k+1) (.of Z) ?_ ?_)))
   ·exact⟨by omega,(aA.trans N),by have:=O;have:=C.size;have:=D.size;have:=d.size;have:=u.size;have:=N.size;omega,(aC.le N),(a3.le N)⟩
   first|omega|(simp only[];omega)
  refine Xq 1 Z (dF K) (Xn 9 Z (F7 Z (.AU Z Z Z) (Xx 1 Z (Cf Z (WC.skip (Lp 1 Z Z ?_))))))
  have b3:=(((f.le C).cn D (by have:=f.lt;omega)).le (d.trans u))
  refine E.again (k+1) (.of Z) ?_ ?_
  ·exact⟨by omega,aA,by have:=O;have:=C.size;have:=D.size;have:=d.size;have:=u.size;omega,aC,b3⟩
  first|omega|(simp only[];omega)
 refine Cn Z (dF c1) (Ex (Sq (Rr 1 Z ?_)))
 by_cases cu:ch.op=0
 ·refine Yb [J 100,J 200,J 5,J 16,J 1,J 1125899906842624,J 100,J 200,J 6,J 16,J 1,J (1125899906842624)] Z e Z (Yx 1 Z (Bk (WC.rounds 3 (uo.step (Sr (Yq 1 Z (show _=true from by first|decide|rfl) (Nx (Sq (Ct Z ?_)))))))))
  refine Nb (Rr 1 Z (Wa (.DU 0 [J 100,J 200,J 5,J 16,J 1,J (1125899906842624)] underlying66 H6 TR Z Z Z (by omega) Z) Z (Yz Z z65 fun a4 b4 b5 (b6:ik b4 a4 65 #[J 0,J 0,J 0,J 0,J 0,J (0)]) P=>Yn 1 Z (Yw Z b6 (wN Z) ?_))))
  intro a5 aD Q
  have aD:ik a5 a4 65 #[J 100,J 200,J 5,J 16,J 1,J (1125899906842624)]:=aD
  have a6:=(o.trans P).tb Q o b5
  refine Nx (Sr ?_)
  have aE:=((f.le P).cn Q (by have:=f.lt;omega))
  refine Yh Z aE (Yn 1 Z (Yc Z (rD (c:=c) 0 a5 (hC.le a6) hr (by omega)) fun cv F=>?_))
  have a7:=a6.trans F
  refine Yx 5 Z (Sr ?_)
  have aF:=zq s.cs (1-0);have aG:=zq s.cs (1-1);have aH:=xV hr (1-0);have aI:=xV hr (1-1)
  refine Yn 2 Z ?_
  have a8:=(aD.le F)
  refine Yk (J 16) Z a8 Z (Yn 1 Z ?_)
  by_cases l:16<((wX s.cs (1-0)).length:Int)
  ·refine Dt l Z Z (Yx 5 Z (Ct Z (Rn 1 Z (Rt (E.jc (E.il (E.il (E.jc (E.il ?_)))))))))
   refine E.iC Z Z ?_
   exfalso;omega
  refine Df l Z Z (Yn 2 Z (Yk (J 1125899906842624) Z a8 Z (Yx 2 Z ?_)))
  by_cases m:1125899906842624<(jT (wX s.cs (1-0)))
  ·refine Cy Z (dT m) (Rn 1 Z (Rt (E.jc (E.il (E.il (E.jc (E.il (E.iC Z Z ?_))))))))
   exfalso;omega
  refine Cn Z (dF m) (WC.skip (E.jD (E.iM (Rg (Wa (.as (.add Z Z (by decide)) Z) Z (Yn 1 Z (W.nil (E.round (uo.step ?_)))))))))
  refine Sr (Yq 1 Z (show _=true from by first|decide|rfl) (Nx (Sq (Ct Z (Nb (Rr 1 Z (Wa (.DU 1 [J 100,J 200,J 6,J 16,J 1,J (1125899906842624)] underlying66 H6 TR Z Z Z (by omega) Z) Z (Yz Z z65 fun a9 b7 b8 (b9:ik b7 a9 65 #[J 0,J 0,J 0,J 0,J 0,J (0)]) aJ=>Yn 1 Z ?_))))))))
  refine Yw Z b9 (wN Z) ?_
  intro ba aK aL
  have aK:ik ba a9 65 #[J 100,J 200,J 6,J 16,J 1,J (1125899906842624)]:=aK
  have bb:=(a7.trans aJ).tb aL a7 b8
  refine Nx (Sr ?_)
  have _:=F.size
  have bc:=((aE.le (F.trans aJ)).cn aL (by have:=aE.lt;omega))
  refine Yh Z bc (Yn 1 Z (Yc Z (rD (c:=c) 1 ba (hC.le bb) hr (by omega)) fun cw R=>Yx 5 Z (Sr ?_)))
  have aF:=zq s.cs (1-0);have aG:=zq s.cs (1-1);have aH:=xV hr (1-0);have aI:=xV hr (1-1)
  refine Yn 2 Z ?_
  have bd:=(aK.le R)
  refine Yk (J 16) Z bd Z (Yn 1 Z ?_)
  by_cases l:16<((wX s.cs (1-1)).length:Int)
  ·refine Dt l Z Z (Yx 5 Z (Ct Z (Rn 1 Z (Rt (E.jc (E.il (E.il (E.jc (E.il ?_)))))))))
   refine E.iC Z Z ?_
   exfalso;omega
  refine Df l Z Z (Yn 2 Z (Yk (J 1125899906842624) Z bd Z (Yx 2 Z ?_)))
  by_cases m:1125899906842624<(jT (wX s.cs (1-1)))
  ·refine Cy Z (dT m) (Rn 1 Z (Rt (E.jc (E.il (E.il (E.jc (E.il (E.iC Z Z ?_))))))))
   exfalso;omega
  refine Cn Z (dF m) (WC.skip (E.jD (E.iM (Rg (Wa (.as (.add Z Z (by decide)) Z) Z (Yn 1 Z (W.nil (E.round (uo.step ?_)))))))))
  refine Sr (Yq 1 Z (show _=false from by first|decide|rfl) (Nx (Sq (Cf Z (Ex (Sq (WC.draw [0,2,3,1,4,5,6,7,8,9,10,11,12,13,14,15,16] mixed (by kernel_rfl) fun aM x=>?_)))))))
  have be:=(bb.trans R).trans x
  have hpy:=hr.pays
  rw[h_0 s (by assumption)]at hpy
  have bf:=(bc.le (R.trans x))
  refine Xh Z bf (Xn 1 Z ?_)
  have _:=e.lt
  have bg:=(((((e.le P).cn Q (by omega)).le (F.trans aJ)).cn aL (by have:=P.size;have:=Q.size;omega)).le (R.trans x))
  refine Xk (J ch.am) Z bg Z (Xc Z (Kh (c:=c) aM (hC.le be) hr) fun ca S=>?_)
  have bh:=be.trans S
  refine Xt 1 Z (Xn 2 Z ?_)
  have bi:=(bg.le S)
  refine Xk (J ch.op) Z bi Z (Xn 1 Z (Xi 0 Z ?_))
  have bj:=(bf.le S)
  refine Xk (J s.h0) Z bj Z (Xh Z bi (Xh Z bj (Xc Z (Oo (c:=c) ch ca (hC.le bh) hr.len hr.Wy) fun cx bk=>Xx 3 Z (Re Z Z ?_))))
  exact⟨rB (dT (by omega)),(bh.trans bk)⟩
 refine Yb [J 100,J 200,J 5,J 16,J 1,J 1125899906842624,J 100,J 200,J 6,J 16,J 1,J (1125899906842624)] Z e Z (Yx 1 Z (Bk (WC.rounds 3 (uo.step (Sr (Yq 1 Z (show _=true from by first|decide|rfl) (Nx (Sq (Ct Z ?_)))))))))
 refine Nb (Rr 1 Z (Wa (.DU 0 [J 100,J 200,J 5,J 16,J 1,J (1125899906842624)] underlying66 H6 TR Z Z Z (by omega) Z) Z (Yz Z z65 fun bl cc cd (ce:ik cc bl 65 #[J 0,J 0,J 0,J 0,J 0,J (0)]) U=>Yn 1 Z (Yw Z ce (wN Z) ?_))))
 intro bm aN V
 have aN:ik bm bl 65 #[J 100,J 200,J 5,J 16,J 1,J (1125899906842624)]:=aN
 have bn:=(o.trans U).tb V o cd
 refine Nx (Sr ?_)
 have aO:=((f.le U).cn V (by have:=f.lt;omega))
 refine Yh Z aO (Yn 1 Z (Yc Z (rD (c:=c) 0 bm (hC.le bn) hr (by omega)) fun cy H=>?_))
 have bo:=bn.trans H
 refine Yx 5 Z (Sr ?_)
 have aF:=zq s.cs (1-0);have aG:=zq s.cs (1-1);have aH:=xV hr (1-0);have aI:=xV hr (1-1)
 refine Yn 2 Z ?_
 have bp:=(aN.le H)
 refine Yk (J 16) Z bp Z (Yn 1 Z ?_)
 by_cases l:16<((wX s.cs (1-0)).length:Int)
 ·refine Dt l Z Z (Yx 5 Z (Ct Z (Rn 1 Z (Rt (E.jc (E.il (E.il (E.jc (E.il ?_)))))))))
  refine E.iC Z Z ?_
  exfalso;omega
 refine Df l Z Z (Yn 2 Z (Yk (J 1125899906842624) Z bp Z (Yx 2 Z ?_)))
 by_cases m:1125899906842624<(jT (wX s.cs (1-0)))
 ·refine Cy Z (dT m) (Rn 1 Z (Rt (E.jc (E.il (E.il (E.jc (E.il (E.iC Z Z ?_))))))))
  exfalso;omega
 refine Cn Z (dF m) (WC.skip (E.jD (E.iM (Rg (Wa (.as (.add Z Z (by decide)) Z) Z (Yn 1 Z (W.nil (E.round (uo.step ?_)))))))))
 refine Sr (Yq 1 Z (show _=true from by first|decide|rfl) (Nx (Sq (Ct Z (Nb (Rr 1 Z (Wa (.DU 1 [J 100,J 200,J 6,J 16,J 1,J (1125899906842624)] underlying66 H6 TR Z Z Z (by omega) Z) Z (Yz Z z65 fun bq cf cg (ci:ik cf bq 65 #[J 0,J 0,J 0,J 0,J 0,J (0)]) aP=>Yn 1 Z ?_))))))))
 refine Yw Z ci (wN Z) ?_
 intro bs aQ aR
 have aQ:ik bs bq 65 #[J 100,J 200,J 6,J 16,J 1,J (1125899906842624)]:=aQ
 have bt:=(bo.trans aP).tb aR bo cg
 refine Nx (Sr ?_)
 have _:=H.size
 have bu:=((aO.le (H.trans aP)).cn aR (by have:=aO.lt;omega))
 refine Yh Z bu (Yn 1 Z (Yc Z (rD (c:=c) 1 bs (hC.le bt) hr (by omega)) fun cz X=>Yx 5 Z (Sr ?_)))
 have aF:=zq s.cs (1-0);have aG:=zq s.cs (1-1);have aH:=xV hr (1-0);have aI:=xV hr (1-1)
 refine Yn 2 Z ?_
 have bv:=(aQ.le X)
 refine Yk (J 16) Z bv Z (Yn 1 Z ?_)
 by_cases l:16<((wX s.cs (1-1)).length:Int)
 ·refine Dt l Z Z (Yx 5 Z (Ct Z (Rn 1 Z (Rt (E.jc (E.il (E.il (E.jc (E.il ?_)))))))))
  refine E.iC Z Z ?_
  exfalso;omega
 refine Df l Z Z (Yn 2 Z (Yk (J 1125899906842624) Z bv Z (Yx 2 Z ?_)))
 by_cases m:1125899906842624<(jT (wX s.cs (1-1)))
 ·refine Cy Z (dT m) (Rn 1 Z (Rt (E.jc (E.il (E.il (E.jc (E.il (E.iC Z Z ?_))))))))
  exfalso;omega
 refine Cn Z (dF m) (WC.skip (E.jD (E.iM (Rg (Wa (.as (.add Z Z (by decide)) Z) Z (Yn 1 Z (W.nil (E.round (uo.step ?_)))))))))
 refine Sr (Yq 1 Z (show _=false from by first|decide|rfl) (Nx (Sq (Cf Z (Ex (Sq (WC.draw [0,2,3,1,4,5,6,7,8,9,10,11,12,13,14,15,16] mixed (by kernel_rfl) fun aM x=>?_)))))))
 have bw:=(bt.trans X).trans x
 have hpy:=hr.pays
 rw[h_1 s (by assumption)]at hpy
 have bx:=(bu.le (X.trans x))
 refine Xh Z bx (Xn 1 Z ?_)
 have _:=e.lt
 have bz:=(((((e.le U).cn V (by omega)).le (H.trans aP)).cn aR (by have:=U.size;have:=V.size;omega)).le (X.trans x))
 refine Xk (J ch.am) Z bz Z (Xc Z (Kh (c:=c) aM (hC.le bw) hr) fun cj Y=>?_)
 have bA:=bw.trans Y
 refine Xt 1 Z (Xn 2 Z ?_)
 have bB:=(bz.le Y)
 refine Xk (J ch.op) Z bB Z (Xn 1 Z (Xi 1 Z ?_))
 have bC:=(bx.le Y)
 refine Xk (J s.h1) Z bC Z (Xh Z bB (Xh Z bC (Xc Z (Oo (c:=c) ch cj (hC.le bA) hr.len hr.Wy) fun cA bD=>Xx 3 Z (Re Z Z ?_))))
 exact⟨rB (dT (by omega)),(bA.trans bD)⟩
theorem zX (i:Int)(hi:0<=i/\i<=1){s:ny}{Dp op:Int}{A:Option Addr}{n c:Nat}(w:World)(hC:Vec w jl 5 A n s.cs)(hr:kz Dp op s):Calls prog 15 #[.agg #[J s.no,J s.h0,J s.h1,.slice A n c,J (s.rt)],J (i)] w fun r w'=>r= .returned (J (s.h i+jT (wX s.cs i)))/\Le w w':=by
 have hl:=hC.1;have hlen:=hr.len
 have X:=hr.Vq;have Y:=hr.Vr
 have aa:=xV hr (1-(1-i))
 refine En func15 Z (Sr (Yv Z fun N d ac (m:ik d N 38 #[J s.no,J s.h0,J s.h1,.slice A n c,J (s.rt)]) O=>?_))
 have o:=(Le.refl w).trans O
 refine Yx 1 Z (Sq (Sr ?_))
 by_cases ad:i=0
 ·refine Yn 1 Z (W.ef Z Z Z (Ef.iw (len:=1) [_] underlying48 Je Z (by simp[Value.cells]) Z (by decide) (by decide) ?_))
  intro t e P f u
  have f:ik e t 3 (([i]).map iv).flatten.toArray:=f
  have Q:iy e d.heap.size 3 iv 1 (some ⟨t,0,none⟩) 1 1 ([i]):=f.j4 P iQ Z Z (by decide)
  refine Yc Z (by have k:=nE (c:=1) 0 1 e Q.vec;rw[A9 (n:=i) (lo:=0) (hi:=1) (by omega)]at k;exact k) fun R x=>?_
  have y:=(o.trans u).trans x
  refine Yx 1 Z (Cf Z (Sn (Sr ?_)))
  have B:=(m.le (u.trans x))
  refine Yh Z B (Yn 1 Z (Yp Z (Yc Z (rD (c:=c) (1-i) R (hC.le y) hr (by omega)) fun ae C=>Yx 5 Z (Rr 2 Z (Yi 0 Z (Yk (J s.h0) Z (B.le C) Z (Yn 1 Z (Yp Z ?_))))))))
  refine Yy 1 Z Z Z ?_
  exact⟨by rw[h_0 s (by assumption),show(1:Int)-(1-i)=i by omega],(y.trans C)⟩
 refine Yn 1 Z (W.ef Z Z Z (Ef.iw (len:=1) [_] underlying48 Je Z (by simp[Value.cells]) Z (by decide) (by decide) ?_))
 intro D j S l F
 have l:ik j D 3 (([i]).map iv).flatten.toArray:=l
 have U:iy j d.heap.size 3 iv 1 (some ⟨D,0,none⟩) 1 1 ([i]):=l.j4 S iQ Z Z (by decide)
 refine Yc Z (by have k:=nE (c:=1) 0 1 j U.vec;rw[A9 (n:=i) (lo:=0) (hi:=1) (by omega)]at k;exact k) fun V H=>?_
 have I:=(o.trans F).trans H
 refine Yx 1 Z (Cf Z (Sn (Sr ?_)))
 have K:=(m.le (F.trans H))
 refine Yh Z K (Yn 1 Z (Yp Z (Yc Z (rD (c:=c) (1-i) V (hC.le I) hr (by omega)) fun af L=>Yx 5 Z (Rr 2 Z (Yi 1 Z (Yk (J s.h1) Z (K.le L) Z (Yn 1 Z (Yp Z ?_))))))))
 refine Yy 1 Z Z Z ?_
 exact⟨by rw[h_1 s (by assumption),show(1:Int)-(1-i)=i by omega],(I.trans L)⟩
structure SlR where
 A:Option Addr
 n:Nat
 c:Nat
def slV (r:SlR):List Value:=[.slice r.A r.n r.c]
theorem Gi:kM slV 1:=⟨fun _=>rfl,fun x v hv=>by simp[slV]at hv;subst hv;rfl,by decide⟩
def aa4:List Byte:=[109,105,120]
def Oq:List Byte:=[114,101,118,111,107,101]
def Jq (nm:List Byte)(l:List Nat):Nat:=kD (tag nm (l.map vB))
def qI (b p:Nat):Nat:=tY b (base (Jq aa4 [p,b]))
def xW (b p:Nat):Nat:=tY (scale b (Jq Oq [b,p])) (scale p (Jq Oq [p,b]))
theorem Sg (m:Nat):∀k,k<8->(rH m k++List.replicate (8-k) 0#8).set k (BitVec.ofNat 8 (m>>>(56-8*k)))=rH m (k+1)++List.replicate (8-(k+1)) 0#8
 |0,_=>rfl
 |1,_=>rfl
 |2,_=>rfl
 |3,_=>rfl
 |4,_=>rfl
 |5,_=>rfl
 |6,_=>rfl
 |7,_=>rfl
theorem Ot (m:Nat){k:Nat}(h:k<=8):(rH m k++List.replicate (8-k) 0#8).length=8:=by simp[rH,iL];omega
theorem UL (h:List (BitVec 8))(hl:h.length=32)(w:World):Calls prog 113 #[.agg (jV h).toArray] w fun r w'=>r= .returned (.int .u64 (kD h:Int))/\Le w w':=by
 rw[kF hl];exact Gg h hl w
theorem Ki (m:Nat)(w:World):Calls prog 160 #[.int .u64 (m:Int)] w fun r w'=>∃g,r= .returned (.slice (some ⟨g,0,none⟩) 8 8)/\w.heap.size<=g/\ik w' g 303 ((vB m).map jf).toArray/\Le w w':=by
 refine En func160 Z ?_
 have i:=Le.refl w
 refine Rn 1 Z (Sr (Yz Z af3 fun c j l e u=>?_))
 have e:ik j c 303 ((List.replicate 8 0#8).map jf).toArray:=e.cast Z
 refine Nx (Sq (Rn 1 Z (Bk (WC.loop (ι:=Nat) (fun k=>[(0,.int .u64 (m:Int)),(3,.pointer (some ⟨c,0,none⟩)),(5,J (k:Int))]) (fun k d=>(k<=8)/\Le w d/\j.heap.size<=d.heap.size/\ik d c 303 ((rH m k++List.replicate (8-k) 0#8).map jf).toArray) (fun k=>8-k) 0 ?_ ?_ ?_))))
 ·exact .of Z
 ·exact⟨by omega,(i.trans u),Nat.le_refl _,e⟩
 rintro k d ⟨hk,n,v,o⟩
 refine Rn 1 Z (Sq ?_)
 by_cases s:(k:Int)<8
 ·refine Cy Z (dT s) (Nb (Rn 2 Z (Rg (Yn 3 Z (Yp Z (Yp Z (Wa (.Pw m (56-8*k) Z Z Z (by omega) (by show 56-8*k<=64;omega)) Z (Wr (.toU8 (m>>>(56-8*k)) (rG underlying60) underlying5 Z Z) Z (Yo k Z ?_)))))))))
  refine W.jR Z Z (Ef.store yC Z Z o (by simp only[List.size_toArray,List.length_map,Ot m hk];omega) Z ?_)
  intro x f t
  have f:ik x c 303 (((rH m k++List.replicate (8-k) 0#8).set k (BitVec.ofNat 8 (m>>>(56-8*k)))).map jf).toArray:=ade f
  refine W.nil (Lp 1 Z Z (E.again (k+1) (.of Z) ?_ ?_))
  ·exact⟨by omega,(n.tb t i l),by have:=v;have:=t.size;omega,(f.cast (by rw[Sg m k (by omega)]))⟩
  first|omega|(simp only[];omega)
 refine Cn Z (dF s) ?_
 have y:k=8:=by omega
 subst y
 refine Ex (Sr (Wa (.Be underlying303 yC Z) Z (Yy 1 Z Z Z ?_)))
 exact⟨_,rfl,l,o,n⟩
theorem D8 (name:ByteArray)(nm:List (BitVec 8)){A:Option Addr}{c x y:Nat}(w:World)(hV:Vec w su 1 A 2 [x,y])(hnm:byteCells name=nm.map jf)(hnl:nm.length<=1000):Calls prog 119 #[.string name,.slice A 2 c] w fun r w'=>r= .returned (.int .u64 (Jq nm [x,y]:Int))/\Le w w':=by
 refine En func119 Z ?_
 have B:=Le.refl w
 refine Rn 1 Z (Rn 1 Z (Sq (Rn 3 Z (Bk (WC.rounds 3 (uo.step (Sr (Yq 1 Z (show _=true from by first|decide|rfl) (Nx ?_)))))))))
 refine Sq (Ct Z (Nb (Sr (Ys 0 Z (hV.isSome iT (by omega)) (Wr (.o9 (v:= .int .u64 (x:Int)) yD Z (hV.le B) iT Z Z) Z (Yx 1 Z (Rg (Yn 2 Z (Yd Z (Ki x w) ?_)))))))))
 rintro _ K ⟨l,rfl,aa,m,L⟩
 refine W.ef Z Z Z (Ef.iw (len:=1) [_] underlying266 FC Z (by simp[Value.cells]) Z (by decide) (by decide) ?_)
 intro C d N f i
 have n:=(B.trans L).trans i
 have f:ik d C 78 (([(⟨(some ⟨l,0,none⟩),8,8⟩:SlR)]).map slV).flatten.toArray:=f
 have ac:iy d K.heap.size 78 slV 1 (some ⟨C,0,none⟩) 1 1 ([(⟨(some ⟨l,0,none⟩),8,8⟩:SlR)]):=f.j4 N Gi Z Z (by decide)
 refine W.ef Z Z Z (Ef.vJ (a:=(⟨(some ⟨l,0,none⟩),8,8⟩:SlR)) underlying266 FC underlying266 Gi Z (iy.nil d d.heap.size 78 slV 1 none) Z f (by omega) (by unfold maxLen;omega) (Nat.le_refl _) ?_)
 intro ad ae O D o af
 have F:=n.ja o (fun q hq=>Nat.le_trans n.size ((iy.nil d d.heap.size 78 slV 1 none).row hq).1)
 refine Yn 1 Z (W.nil (E.jD (E.iM (Rg (Wa (.as (.add Z Z (by decide)) Z) Z (Yn 1 Z (W.nil (E.round (uo.step ?_)))))))))
 refine Sr (Yq 1 Z (show _=true from by first|decide|rfl) (Nx (Sq (Ct Z (Nb (Sr (Ys 1 Z (hV.isSome iT (by omega)) (Wr (.o9 (v:= .int .u64 (y:Int)) yD Z (hV.le F) iT Z Z) Z (Yx 1 Z ?_)))))))))
 refine Rg (Yn 2 Z (Yd Z (Ki y O) ?_))
 rintro _ P ⟨s,rfl,ah,Q,j⟩
 refine W.ef Z Z Z (Ef.iw (len:=1) [_] underlying266 FC Z (by simp[Value.cells]) Z (by decide) (by decide) ?_)
 intro H I R k e
 have k:ik I H 78 (([(⟨(some ⟨s,0,none⟩),8,8⟩:SlR)]).map slV).flatten.toArray:=k
 have ai:iy I P.heap.size 78 slV 1 (some ⟨H,0,none⟩) 1 1 ([(⟨(some ⟨s,0,none⟩),8,8⟩:SlR)]):=k.j4 R Gi Z Z (by decide)
 have t:=(D.le (j.trans e))
 refine W.ef Z Z Z (Ef.vJ (a:=(⟨(some ⟨s,0,none⟩),8,8⟩:SlR)) underlying266 FC underlying266 Gi Z t Z k (by omega) (by unfold maxLen;omega) (by have:=o.size;have:=j.size;have:=e.size;omega) ?_)
 intro aj ak S U u al
 refine Yn 1 Z (W.nil (E.jD (E.iM (Rg (Wa (.as (.add Z Z (by decide)) Z) Z (Yn 1 Z (W.nil (E.round (uo.step ?_)))))))))
 have _:=m.lt
 have _:=i.size
 refine Sr (Yq 1 Z (show _=false from by first|decide|rfl) (Nx (Sq (Cf Z (Ex (Rr 2 Z (Yc Z (Ib _ nm S (ps:=[vB x,vB y]) hnm U.vec.2 (.cons (((((m.le i).ch o (fun he=>by have:=((iy.nil d d.heap.size 78 slV 1 none).row he).1;omega)).le (j.trans e)).ch u (t.rl (by omega))).sb (iL _)) (.cons (((Q.le e).ch u (D.rn (by omega))).sb (iL _)) (.nil _))) (by rw[RO,iL,iL];omega)) fun V X=>Yc Z (Gg (tag nm [vB x,vB y]) (jG _ _) V) fun an Y=>Yy 1 Z Z Z ?_)))))))
 exact⟨rfl,(((((F.trans j).trans e).ja u (fun q hq=>Nat.le_trans n.size (t.row hq).1)).trans X).trans Y)⟩
theorem Ou (m:List (BitVec 8))(hm:m.length=32)(w:World):Calls prog 58 #[.agg (jV m).toArray] w fun r w'=>r= .returned (.int .u64 (base (kD m):Int))/\Le w w':=by
 refine En func58 Z (Sr (Yv Z fun d c l (e:ik c d 23 (jV m).toArray) f=>Yx 1 Z (Sr (Yh Z e (Yc Z (UL m (by assumption) c) fun i j=>Yc Z (pF (kD m) i) fun n k=>Yy 1 Z Z Z ?_)))))
 exact⟨rfl,((((Le.refl w).trans f).trans j).trans k)⟩
theorem LM (b p:Nat)(hb:b<18446744073709551616)(hp:p<18446744073709551616)(w:World):Calls prog 62 #[.int .u64 (b:Int),.int .u64 (p:Int)] w fun r w'=>r= .returned (.int .u64 (qI b p:Int))/\Le w w':=by
 refine En func62 Z (Rn 1 Z (Rr 3 Z (W.ef Z Z Z (Ef.iw (len:=2) [_,_] underlying187 wy Z (by simp[Value.cells]) Z (by decide) (by decide) ?_))))
 intro e c f d i
 have d:ik c e 60 (([p,b]).map su).flatten.toArray:=d
 have j:iy c w.heap.size 60 su 1 (some ⟨e,0,none⟩) 2 2 ([p,b]):=d.j4 f iT Z Z (by decide)
 refine Yc Z (D8 _ aa4 (x:=p) (y:=b) c j.vec Z (by decide)) fun k l=>Yc Z (pF (Jq aa4 [p,b]) k) fun m n=>Yc Z (Lt b (base (Jq aa4 [p,b])) (by first|assumption|omega|decide) (nD _) m) fun s o=>Yy 1 Z Z Z ?_
 exact⟨rfl,(((((Le.refl w).trans i).trans l).trans n).trans o)⟩
theorem aa5 (b p:Nat)(hb:b<18446744073709551616)(hp:p<18446744073709551616)(w:World):Calls prog 61 #[.int .u64 (b:Int),.int .u64 (p:Int)] w fun r w'=>r= .returned (.int .u64 (xW b p:Int))/\Le w w':=by
 refine En func61 Z (Rn 1 Z (Rr 3 Z (W.ef Z Z Z (Ef.iw (len:=2) [_,_] underlying187 wy Z (by simp[Value.cells]) Z (by decide) (by decide) ?_))))
 intro i c k d l
 have d:ik c i 60 (([b,p]).map su).flatten.toArray:=d
 have m:iy c w.heap.size 60 su 1 (some ⟨i,0,none⟩) 2 2 ([b,p]):=d.j4 k iT Z Z (by decide)
 refine Yc Z (D8 _ Oq (x:=b) (y:=p) c m.vec Z (by decide)) fun n o=>Yc Z (CE b (Jq Oq [b,p]) (by first|assumption|omega|decide) n) fun s t=>Yn 3 Z (W.ef Z Z Z (Ef.iw (len:=2) [_,_] underlying187 wy Z (by simp[Value.cells]) Z (by decide) (by decide) ?_))
 intro j e u f v
 have f:ik e j 60 (([p,b]).map su).flatten.toArray:=f
 have A:iy e s.heap.size 60 su 1 (some ⟨j,0,none⟩) 2 2 ([p,b]):=f.j4 u iT Z Z (by decide)
 refine Yc Z (D8 _ Oq (x:=p) (y:=b) e A.vec Z (by decide)) fun B C=>Yc Z (CE p (Jq Oq [p,b]) (by first|assumption|omega|decide) B) fun D F=>Yc Z (Lt (scale b (Jq Oq [b,p])) (scale p (Jq Oq [p,b])) (zU _ _) (zU _ _) D) fun I H=>Yy 1 Z Z Z ?_
 exact⟨rfl,((((((((Le.refl w).trans l).trans o).trans t).trans v).trans C).trans F).trans H)⟩
theorem Si (k:Kt)(w:World):Calls prog 76 #[.agg (mD k).toArray] w fun r w'=>r= .returned (.agg (xg (iW k)).toArray)/\Le w w':=by
 refine En func76 Z (Sr (Yv Z fun y A R (B:ik A y 70 (mD k).toArray) C=>?_))
 have t:=(Le.refl w).trans C
 refine Yz Z z62 fun u D F (H:ik D u 62 (xg je).toArray) x=>Nx (Sq (WC.draw [0,1,3,4,6,7,9,10,12,13,2,5,8,11,14,15,16] mixed (by kernel_rfl) fun I e=>Xn 1 Z ?_))
 have d:=(B.le (x.trans e))
 refine Xk (.int .u64 (k.f:Int)) Z d Z (Xn 1 Z (Xk (.int .u64 (k.p:Int)) Z d Z (Xn 1 Z (Xk (.int .u64 (k.l:Int)) Z d Z (Xn 1 Z (Xk (.int .u64 (k.c:Int)) Z d Z (Xn 1 Z (Xk (.int .u64 (k.r:Int)) Z d Z (Xc Z (pF k.f I) fun K i=>?_)))))))))
 refine Xc Z (pF k.p K) fun L j=>Xc Z (pF k.l L) fun N m=>Xc Z (pF k.c N) fun O n=>Xc Z (pF k.r O) fun S o=>Ga Z (.iF (xg (⟨base k.f,base k.p,base k.l,base k.c,base k.r⟩)) agf z62 Z Z) (Xw Z (H.le (e.trans (i.trans (j.trans (m.trans (n.trans o)))))) (CQ.one (⟨base k.f,base k.p,base k.l,base k.c,base k.r⟩)) ?_)
 intro P s Q
 refine noT (by kernel_rfl) ?_
 have s:ik P u 62 (xg (⟨base k.f,base k.p,base k.l,base k.c,base k.r⟩)).toArray:=s
 refine Gx (Re Z (lV Z s afs (by rfl)) ?_)
 exact⟨rfl,((((((((t.trans x).trans e).trans i).trans j).trans m).trans n).trans o).tb Q t F)⟩
end Go.Proofs.YtkpmaajniagncaaGreatDoor
