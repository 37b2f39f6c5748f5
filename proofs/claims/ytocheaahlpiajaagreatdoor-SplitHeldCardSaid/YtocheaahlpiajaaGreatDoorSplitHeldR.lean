/- SplitHeld: for every input the law answers true and leaves its arguments as they were. -/
import Derived.Test.YtocheaahlpiajaaGreatDoorSplitHeldQ
import Derived.Shelf.SlIterI.Nil
import Derived.Shelf.SortM.Plain
import Derived.Shelf.SortM.SortNone
import Derived.Ground.GgzProg
import Derived.Ground.SlgmProg
set_option linter.unusedVariables false
set_option linter.unusedSimpArgs false
set_option maxRecDepth 20000
namespace Go.Proofs
open Go.Shelf
def Tryz.keysA_ren:Go.Shelf.Ren:=⟨fun|7=>230|10=>285|n=>n,fun|23=>226|26=>3|3=>231|28=>310|0=>0|27=>309|33=>230|4=>4|n=>n,fun|n=>n⟩
theorem Tryz.keysA:Go.Proofs.SlLaysZI.n7 prog Tryz.keysA_ren:={
  mixed:=by kernel_rfl
  f7:=⟨Tryz.f230.name,by decide,func230.trans (congrArg some (by kernel_rfl))⟩
  f10:=⟨Tryz.f285.name,by decide,func285.trans (congrArg some (by kernel_rfl))⟩
  t0:=underlying0
  a0:=Tryz.isAgg0
  z0:=Tryz.sizeOf0
  v0:=Tryz.zeroValue0
  t4:=underlying4
  a4:=Tryz.isAgg4
  z4:=Tryz.sizeOf4
  v4:=Tryz.zeroValue4
  t23:=underlying226
  a23:=Tryz.isAgg226
  z23:=Tryz.sizeOf226
  v23:=Tryz.zeroValue226
  t26:=underlying3
  a26:=Tryz.isAgg3
  z26:=Tryz.sizeOf3
  v26:=Tryz.zeroValue3
  t27:=underlying309
  a27:=Tryz.isAgg309
  z27:=Tryz.sizeOf309
  v27:=Tryz.zeroValue309
  t28:=underlying310
  a28:=Tryz.isAgg310
  z28:=Tryz.sizeOf310
  v28:=Tryz.zeroValue310
  t33:=underlying230
  a33:=Tryz.isAgg230
  z33:=Tryz.sizeOf230
  v33:=Tryz.zeroValue230}
def Tryz.sortedA_ren:Go.Shelf.Ren:=⟨fun|6=>229|8=>283|9=>284|11=>315|13=>287|12=>316|23=>325|24=>326|14=>335|15=>336|16=>337|17=>338|18=>339|19=>340|20=>341|21=>342|22=>343|25=>356|26=>345|27=>346|28=>357|29=>358|30=>278|31=>364|n=>n,fun|26=>3|28=>310|24=>23|0=>0|3=>3|37=>287|48=>273|50=>27|4=>4|40=>377|39=>376|45=>173|5=>5|9=>9|51=>392|55=>396|57=>406|58=>149|33=>230|n=>n,fun|n=>n⟩
theorem Tryz.sortedA:Go.Proofs.SlLaysZI.n6 prog Tryz.sortedA_ren:={
  mixed:=by kernel_rfl
  f6:=⟨Tryz.f229.name,by decide,func229.trans (congrArg some (by kernel_rfl))⟩
  f8:=⟨Tryz.f283.name,by decide,func283.trans (congrArg some (by kernel_rfl))⟩
  f11:=⟨Tryz.f315.name,by decide,func315.trans (congrArg some (by kernel_rfl))⟩
  t0:=underlying0
  a0:=Tryz.isAgg0
  z0:=Tryz.sizeOf0
  v0:=Tryz.zeroValue0
  t24:=underlying23
  a24:=Tryz.isAgg23
  z24:=Tryz.sizeOf23
  v24:=Tryz.zeroValue23
  t26:=underlying3
  a26:=Tryz.isAgg3
  z26:=Tryz.sizeOf3
  v26:=Tryz.zeroValue3
  t28:=underlying310
  a28:=Tryz.isAgg310
  z28:=Tryz.sizeOf310
  v28:=Tryz.zeroValue310
  i26:=by kernel_rfl}
def Tryz.sortA_ren:Go.Shelf.Ren:=⟨fun|5=>284|8=>287|7=>316|19=>325|20=>326|10=>335|11=>336|12=>337|13=>338|14=>339|15=>340|16=>341|17=>342|18=>343|30=>356|31=>345|32=>346|33=>357|34=>358|35=>278|40=>364|n=>n,fun|23=>23|25=>3|3=>3|32=>287|22=>23|0=>0|44=>273|46=>27|4=>4|36=>377|35=>376|41=>173|5=>5|9=>9|53=>392|57=>396|63=>406|64=>149|n=>n,fun|n=>n⟩
theorem Tryz.sortA:Go.Proofs.SlLaysM.n5 prog Tryz.sortA_ren:={
  mixed:=by kernel_rfl
  f5:=⟨Tryz.f284.name,by decide,func284.trans (congrArg some (by kernel_rfl))⟩
  f7:=⟨Tryz.f316.name,by decide,func316.trans (congrArg some (by kernel_rfl))⟩
  f8:=func287.trans (congrArg some (by kernel_rfl))
  f10:=⟨Tryz.f335.name,by decide,func335.trans (congrArg some (by kernel_rfl))⟩
  f11:=⟨Tryz.f336.name,by decide,func336.trans (congrArg some (by kernel_rfl))⟩
  f12:=⟨Tryz.f337.name,by decide,func337.trans (congrArg some (by kernel_rfl))⟩
  f13:=⟨Tryz.f338.name,by decide,func338.trans (congrArg some (by kernel_rfl))⟩
  f14:=⟨Tryz.f339.name,by decide,func339.trans (congrArg some (by kernel_rfl))⟩
  f15:=⟨Tryz.f340.name,by decide,func340.trans (congrArg some (by kernel_rfl))⟩
  f16:=⟨Tryz.f341.name,by decide,func341.trans (congrArg some (by kernel_rfl))⟩
  f17:=⟨Tryz.f342.name,by decide,func342.trans (congrArg some (by kernel_rfl))⟩
  f18:=⟨Tryz.f343.name,by decide,func343.trans (congrArg some (by kernel_rfl))⟩
  f19:=func325.trans (congrArg some (by kernel_rfl))
  f20:=func326.trans (congrArg some (by kernel_rfl))
  f30:=⟨Tryz.f356.name,by decide,func356.trans (congrArg some (by kernel_rfl))⟩
  f31:=func345.trans (congrArg some (by kernel_rfl))
  f32:=func346.trans (congrArg some (by kernel_rfl))
  f33:=⟨Tryz.f357.name,by decide,func357.trans (congrArg some (by kernel_rfl))⟩
  f34:=⟨Tryz.f358.name,by decide,func358.trans (congrArg some (by kernel_rfl))⟩
  f35:=⟨Tryz.f278.name,by decide,func278.trans (congrArg some (by kernel_rfl))⟩
  f40:=⟨Tryz.f364.name,by decide,func364.trans (congrArg some (by kernel_rfl))⟩
  t0:=underlying0
  a0:=Tryz.isAgg0
  z0:=Tryz.sizeOf0
  v0:=Tryz.zeroValue0
  t3:=underlying3
  a3:=Tryz.isAgg3
  z3:=Tryz.sizeOf3
  v3:=Tryz.zeroValue3
  t4:=underlying4
  a4:=Tryz.isAgg4
  z4:=Tryz.sizeOf4
  v4:=Tryz.zeroValue4
  t5:=underlying5
  a5:=Tryz.isAgg5
  z5:=Tryz.sizeOf5
  v5:=Tryz.zeroValue5
  t9:=underlying9
  a9:=Tryz.isAgg9
  z9:=Tryz.sizeOf9
  v9:=Tryz.zeroValue9
  t22:=underlying23
  a22:=Tryz.isAgg23
  z22:=Tryz.sizeOf23
  v22:=Tryz.zeroValue23
  t23:=underlying23
  a23:=Tryz.isAgg23
  z23:=Tryz.sizeOf23
  v23:=Tryz.zeroValue23
  t25:=underlying3
  a25:=Tryz.isAgg3
  z25:=Tryz.sizeOf3
  v25:=Tryz.zeroValue3
  t32:=underlying287
  a32:=Tryz.isAgg287
  z32:=Tryz.sizeOf287
  v32:=Tryz.zeroValue287
  t35:=underlying376
  a35:=Tryz.isAgg376
  z35:=Tryz.sizeOf376
  v35:=Tryz.zeroValue376
  t36:=underlying377
  a36:=Tryz.isAgg377
  z36:=Tryz.sizeOf377
  v36:=Tryz.zeroValue377
  t41:=underlying173
  a41:=Tryz.isAgg173
  z41:=Tryz.sizeOf173
  v41:=Tryz.zeroValue173
  t44:=underlying273
  a44:=Tryz.isAgg273
  z44:=Tryz.sizeOf273
  v44:=Tryz.zeroValue273
  t46:=underlying27
  a46:=Tryz.isAgg27
  z46:=Tryz.sizeOf27
  v46:=Tryz.zeroValue27
  t53:=underlying392
  a53:=Tryz.isAgg392
  z53:=Tryz.sizeOf392
  v53:=Tryz.zeroValue392
  t57:=underlying396
  a57:=Tryz.isAgg396
  z57:=Tryz.sizeOf396
  v57:=Tryz.zeroValue396
  t63:=underlying406
  a63:=Tryz.isAgg406
  z63:=Tryz.sizeOf406
  v63:=Tryz.zeroValue406
  t64:=underlying149
  a64:=Tryz.isAgg149
  z64:=Tryz.sizeOf149
  v64:=Tryz.zeroValue149}
end Go.Proofs
namespace Go.Proofs.YtocheaahlpiajaaGreatDoor
open Tryz
open Go Go.Sx Go.Hsp Go.Num Go.Osp Go.Gsp Go.RowKit Go.Maps Go.Sort Go.Shelf
theorem sortsA (m:Nat):AnyZI.SortsIn prog Tryz.sortedA_ren Fence.wide m:=
  ⟨fun blk off cap ss W hH hblk hsz=>callsIn_wide.2 (AnyM.slices_Sort_int Tryz.sortA blk off cap ss W hH hblk hsz),
   fun p cap W=>callsIn_wide.2 (AnyM.slices_Sort_int_none Tryz.sortA p cap W)⟩
theorem keys_ok (ga:Nat)(w:World):Calls prog 230 #[.map (some ga)] w fun r w'=>r= .returned (.func (.func 285) #[] #[.pointer (some ⟨w.heap.size,0,none⟩)])/\Blk w' w.heap.size 226 #[.map (some ga)]/\Le w w':=by
  have h:=callsIn_wide.1 (AnyZI.keys_in Tryz.keysA Fence.wide 5 trivial rfl (some ga) w)
  refine Calls.mono h ?_
  rintro e w' ⟨rfl,rfl⟩
  exact⟨rfl,Blk.new w _ _,(Below.refl _ w).alloc (Nat.le_refl _) _⟩
def inI (x:Int):Prop:= -9223372036854775808<=x/\x<=9223372036854775807
theorem inI_wf {x:Int}(h:inI x):(Lit.int .i64 x).wf=true:=by
  unfold inI at h
  have b:IntKind.i64.min= -9223372036854775808:=by decide
  have c:IntKind.i64.max=9223372036854775807:=by decide
  simp only[Lit.wf,b,c,decide_eq_true_eq,Bool.and_eq_true]
  omega
abbrev noR:Value->Option (DataW Unit×List MemPlace):=fun _=>some (.nil,[])
def mapD (la:List (Nat×Int×Nat)):DataW Unit:= .map ((la.map fun x=>(Lit.int .i64 x.2.1,(DataW.nil:DataW Unit))).foldr DataW.insert [])
theorem rd_key1 {x:Nat×Int×Nat}(h:inI x.2.1):Go.WideElems.rd prog 3 noR (entG ikf ptf x)=some (Lit.int .i64 x.2.1,.nil):=by
  have hk:keyOf prog 3 (Value.int .i64 x.2.1)=some (Lit.int .i64 x.2.1):=by
    unfold keyOf
    rw[underlying3]
    simp[mapKey,underlying3,inI_wf h]
  unfold Go.WideElems.rd
  simp only[entG,ikf,hk]
  rfl
theorem mapOwn {ga ca:Nat}{la:List (Nat×Int×Nat)}{w:World}(hM:MapG w ikf ptf ga la ca)(hr:∀x∈la,inI x.2.1)(hl:la.length<=1000000):w.ownsMap prog 3 noR ga la.length (mapD la):=by
  refine⟨_,_,hM.1,⟨by simp;unfold maxLen;omega,⟨?_,?_,?_⟩,?_⟩,by simp,?_⟩
  · intro x hx
    simp only[List.mem_map]at hx
    obtain⟨y,hy,rfl⟩:=hx
    exact hM.2.old y hy
  · have:=hM.2.borns
    simpa[List.map_map,Function.comp_def,entG]using this
  · have h:=hM.2.keys
    have e:(la.map (entG ikf ptf)).map (fun x=>x.key)=(la.map fun x=>x.2.1).map ikf:=by simp[List.map_map,Function.comp_def,entG]
    simp only
    rw[e]
    exact List.Pairwise.map _ (fun a b hab he=>hab (by simpa[ikf]using he)) h
  · intro x hx
    simp only[List.mem_map]at hx
    obtain⟨y,hy,rfl⟩:=hx
    exact⟨_,rd_key1 (hr y hy)⟩
  · unfold mapD
    congr 2
    simp only[List.map_map]
    apply List.map_congr_left
    intro x hx
    simp only[Function.comp,Go.WideElems.rg,rd_key1 (hr x hx)]
    rfl
theorem mapD_size (la:List (Nat×Int×Nat)):Maps.size (mapD la)=la.length:=by
  unfold mapD
  rw[Maps.size_eq,(Go.WideShapes.sorted_perm _).length_eq]
  simp
theorem mapD_keys (la:List (Nat×Int×Nat)):(intKeys (mapD la)).Perm (la.map fun x=>x.2.1):=by
  unfold mapD intKeys
  refine((Go.WideShapes.sorted_perm _).map _).trans ?_
  rw[List.map_map]
  exact List.Perm.refl _
theorem sorted_ok {ga ca gk:Nat}{la:List (Nat×Int×Nat)}(w:World)(hB:Blk w gk 226 #[.map (some ga)])(hM:MapG w ikf ptf ga la ca)(hr:∀x∈la,inI x.2.1)(hl:la.length<=1000000):
    Calls prog 229 #[.func (.func 285) #[] #[.pointer (some ⟨gk,0,none⟩)]] w fun r w'=>∃(A:Option Addr) (c:Nat) (ns:List Int),r= .returned (.slice A la.length c)/\ns.Perm (la.map fun x=>x.2.1)/\ns.Pairwise (· <= ·)/\OVec w' w.heap.size 3 iv 1 A la.length c ns/\Le w w':=by
  have hown:=mapOwn hM hr hl
  have hseq:SeqGives Fence.wide 2 prog 285 #[.pointer (some ⟨gk,0,none⟩)] encZ (fun ss=>ss.Perm (intKeys (mapD la))) (Maps.size (mapD la)) w:=
    AnyZI.keys_gives (ρ:=Tryz.keysA_ren) {Tryz.keysA with} Fence.wide _ trivial rfl (by omega) gk ga la.length (mapD la) _ hB.lt (by unfold World.cell?;rw[show w.heap[gk]? =_ from hB];rfl) hown
  have cS:=AnyZI.sorted_in Tryz.sortedA Fence.wide 5 trivial trivial trivial trivial rfl (by omega) (sortsA _) (enters_of func284 (by kernel_rfl) rfl) 285 #[.pointer (some ⟨gk,0,none⟩)] trivial (enters_of func285 (by kernel_rfl) rfl) _ _ (by rw[mapD_size];unfold maxLen;omega) (by rw[mapD_size];omega) _ hseq
  change CallsIn _ _ prog 229 _ _ _ at cS
  refine Calls.mono (callsIn_wide.1 cS) ?_
  rintro e w' ⟨v,ss,rfl,hS,hrow,hnil,hb⟩
  have hp:ss.Perm (la.map fun x=>x.2.1):=hS.trans (mapD_keys la)
  have hlen:ss.length=la.length:=by rw[hp.length_eq,List.length_map]
  have hms:(ss.mergeSort (fun x y=>decide (x<=y))).Perm (la.map fun x=>x.2.1):=(List.mergeSort_perm _ _).trans hp
  have hpw:(ss.mergeSort (fun x y=>decide (x<=y))).Pairwise (· <= ·):=by
    have:=List.pairwise_mergeSort (le:=fun x y:Int=>decide (x<=y)) (by intro a b c;simp;omega) (by intro a b;simp;omega) ss
    exact this.imp (by intro a b h;simpa using h)
  obtain⟨d,f⟩:=hrow
  rcases f with⟨rfl,i⟩|⟨g,cap,cur,rfl,hg,hc,hn,hm,hz,ht⟩
  · have j:la.length=0:=by omega
    have k:ss=[]:=List.length_eq_zero_iff.1 i
    subst k
    rw[j]
    exact⟨none,0,[],rfl,by simpa using hms,List.Pairwise.nil,OVec.nil _ _ _ _ _ _,hb⟩
  · rw[hlen]at d hn ht ⊢
    exact⟨some ⟨g,0,none⟩,cap,_,rfl,hms,hpw,Own.ovec ⟨d,.inr ⟨g,cur,rfl,hg,hc,hn,hm,hz,ht⟩⟩,hb⟩
end Go.Proofs.YtocheaahlpiajaaGreatDoor

namespace Go.Proofs.YtocheaahlpiajaaGreatDoor
open Tryz
open Go Go.Sx Go.Hsp Go.Num Go.Osp Go.Gsp
set_option maxRecDepth 20000
theorem over_some {gp ga gh ca:Nat}{la:List (Nat×Int×Nat)}{gq cq:Nat}{Aq:Option Addr}(nm:Int)(p:Pay)(w:World)(hp:Blk w gp 229 #[.map (some ga),.map (some gh)])(hA:MapG w ikf ptf ga la ca)(hg:getG nm la=some gq)(hq:Blk w gq 234 #[.int .u64 (((p.sec:Nat):Int)),.int .i64 (p.tot),.int .i64 (p.by_),.int .i64 (p.lst),.slice Aq p.held.length cq,.int .i64 (p.sum),.bool (p.ovr),.bool (p.paid)]):Calls prog 61 #[.pointer (some ⟨gp,0,none⟩),.int .i64 (nm)] w fun r w'=>r= .returned (.tuple #[.bool p.ovr,.bool p.paid])/\Le w w':=by
 refine enter func61 rfl rfl ?_
 have b:=Le.refl w
 refine Sr (Wn 2 rfl (Nx (Sr (Wn 1 rfl (Wa (.nilCheck rfl) rfl (Wa (.field0 fa229_0 rfl) rfl (Wr (.loadB (v:= .map (some ga)) na226 rfl (hp.le b) rfl) rfl (Wn 1 rfl (Wr (.as (.lookup1 (key:=nm) underlying226 kint z231 rfl rfl (hA.le b)) (by rw[hg]<;>rfl)) rfl ?_)))))))))
 refine Wn 1 rfl (Nx (Sq (Sr (Wn 1 rfl (Wa (.dec (.isNilP (by kernel_rfl) rfl) rfl) rfl (Nx (WC.condF rfl (Sn (Sq (WC.draw [0,1,2,3,4,5,6,7,8,9] mixed (by kernel_rfl) fun e d=>?_))))))))))
 have c:=b.trans d
 refine Gn 1 rfl (Ga rfl (.nilCheck rfl) (Ga rfl (.field0 fa234_6 rfl) (Gd rfl (.loadB (v:= .bool (p.ovr)) na4 rfl (hq.le c) rfl) (Gn 1 rfl (Ga rfl (.nilCheck rfl) ?_)))))
 refine Ga rfl (.field0 fa234_7 rfl) (Gd rfl (.loadB (v:= .bool (p.paid)) na4 rfl (hq.le c) rfl) (Gn 2 rfl (G.nil (E.thenN (Rt (E.retG2 rfl rfl rfl ?_))))))
 exact⟨rfl,c⟩

theorem over_none {gp ga gh ca:Nat}{la:List (Nat×Int×Nat)}(nm:Int)(w:World)(hp:Blk w gp 229 #[.map (some ga),.map (some gh)])(hA:MapG w ikf ptf ga la ca)(hg:getG nm la=none):Calls prog 61 #[.pointer (some ⟨gp,0,none⟩),.int .i64 (nm)] w fun r w'=>r= .returned (.tuple #[.bool false,.bool false])/\Le w w':=by
 refine enter func61 rfl rfl ?_
 have b:=Le.refl w
 refine Sr (Wn 2 rfl (Nx (Sr (Wn 1 rfl (Wa (.nilCheck rfl) rfl (Wa (.field0 fa229_0 rfl) rfl (Wr (.loadB (v:= .map (some ga)) na226 rfl (hp.le b) rfl) rfl (Wn 1 rfl (Wr (.as (.lookup1 (key:=nm) underlying226 kint z231 rfl rfl (hA.le b)) (by rw[hg]<;>rfl)) rfl ?_)))))))))
 refine Wn 1 rfl (Nx (Sq (Sr (Wn 1 rfl (Wa (.dec (.isNilP (by kernel_rfl) rfl) rfl) rfl (Nx (WC.condT rfl (Sr (Wn 2 rfl (Nx (Rt (E.thenR (E.retG2 rfl rfl rfl ?_)))))))))))))
 exact⟨rfl,b⟩

theorem names_ok {gp ga gh ca:Nat}{la:List (Nat×Int×Nat)}(w:World)(hp:Blk w gp 229 #[.map (some ga),.map (some gh)])(hA:MapG w ikf ptf ga la ca)(hr:∀x∈la,inI x.2.1)(hl:la.length<=1000000):Calls prog 150 #[.pointer (some ⟨gp,0,none⟩)] w fun r w'=>∃(A:Option Addr) (c:Nat) (ns:List Int),r= .returned (.slice A la.length c)/\ns.Perm (la.map fun x=>x.2.1)/\ns.Pairwise (· <= ·)/\OVec w' w.heap.size 3 iv 1 A la.length c ns/\Le w w':=by
 refine enter func150 rfl rfl ?_
 have d:=Le.refl w
 refine Sr (Wn 1 rfl (Nx (Sr (Wn 1 rfl (Wa (.nilCheck rfl) rfl (Wa (.field0 fa229_0 rfl) rfl (Wr (.loadB (v:= .map (some ga)) na226 rfl (hp.le d) rfl) rfl (W.cl go230 rfl rfl (keys_ok ga w) ?_))))))))
 rintro _ e ⟨rfl,f,h⟩
 have b:=d.trans h
 refine W.cl go229 rfl rfl (sorted_ok e f (hA.le b) hr hl) ?_
 rintro _ m ⟨n,o,s,rfl,i,j,k,l⟩
 refine Wn 1 rfl (Nx (Rt (E.retG1 rfl rfl ?_)))
 exact⟨_,_,_,rfl,i,j,(k.mono b.size),(b.trans l)⟩







theorem want1_ok (n:Int)(w:World):Calls prog 145 #[.int .i64 (n)] w fun r w'=>r= .returned (.bool (decide (0<=n/\n<=1048576)))/\Le w w':=by
 refine enter func145 rfl rfl ?_
 have c:=Le.refl w
 refine Sr (Wn 1 rfl (Nx (Sr (Wn 2 rfl ?_))))
 by_cases b:0<=n
 ·refine Dt b rfl rfl (Wn 4 rfl (Nx (Rt (E.retG1 rfl rfl ?_))))
  exact⟨by simp[b];try omega,c⟩
 refine Df b rfl rfl (Wn 4 rfl (Nx (Rt (E.retG1 rfl rfl ?_))))
 exact⟨by simp[b];try omega,c⟩

theorem want_some {gp ga gh ca:Nat}{la:List (Nat×Int×Nat)}{gq:Nat}(nm:Int)(sc:Nat)(to by_ le:Int)(w:World)(hp:Blk w gp 229 #[.map (some ga),.map (some gh)])(hA:MapG w ikf ptf ga la ca)(hg:getG nm la=some gq):Calls prog 58 #[.pointer (some ⟨gp,0,none⟩),.int .i64 (nm),.int .u64 (((sc:Nat):Int)),.int .i64 (to),.int .i64 (by_),.int .i64 (le)] w fun r w'=>r= .returned (.int .i64 (if wantOk nm sc to by_ le then 4 else 1))/\Le w w':=by
 refine enter func58 rfl rfl ?_
 have d:=Le.refl w
 refine Sr (Wn 1 rfl (Nx (Sr (Wn 1 rfl (Nx (Sq (Sr (Wn 2 rfl ?_))))))))
 by_cases e:nm<0
 ·refine Dt e rfl rfl (Wn 28 rfl (Nx (WC.condT rfl (Sr (Wn 1 rfl (Nx (Rt (E.thenR (E.retG1 rfl rfl ?_)))))))))
  exact⟨by rw[if_neg (fun h=>by unfold wantOk at h;omega)],d⟩
 refine Df e rfl rfl (Wn 3 rfl ?_)
 by_cases f:((sc:Nat):Int)=0
 ·refine Dt f rfl rfl (Wn 24 rfl (Nx (WC.condT rfl (Sr (Wn 1 rfl (Nx (Rt (E.thenR (E.retG1 rfl rfl ?_)))))))))
  exact⟨by rw[if_neg (fun h=>by unfold wantOk at h;omega)],d⟩
 refine Df f rfl rfl (Wn 1 rfl (W.efg rfl rfl rfl (rfl) rfl rfl (Ef.call go134 rfl rfl (fright_ok sc w) ?_)))
 rintro _ o ⟨rfl,s⟩
 refine⟨_,rfl,?_⟩
 have b:=d.trans s
 refine Wn 2 rfl ?_
 by_cases i:sc<q
 ·refine Wa (.dec (.move rfl) (congrArg not (dT i))) rfl (Wn 3 rfl ?_)
  by_cases j:to<1
  ·refine Dt j rfl rfl (Wn 15 rfl (Nx (WC.condT rfl (Sr (Wn 1 rfl (Nx (Rt (E.thenR (E.retG1 rfl rfl ?_)))))))))
   exact⟨by rw[if_neg (fun h=>by unfold wantOk at h;omega)],b⟩
  refine Df j rfl rfl (Wn 3 rfl ?_)
  by_cases k:1125899906842624<to
  ·refine Dt k rfl rfl (Wn 11 rfl (Nx (WC.condT rfl (Sr (Wn 1 rfl (Nx (Rt (E.thenR (E.retG1 rfl rfl ?_)))))))))
   exact⟨by rw[if_neg (fun h=>by unfold wantOk at h;omega)],b⟩
  refine Df k rfl rfl (Wn 2 rfl (W.efg rfl rfl rfl (rfl) rfl rfl (Ef.call go145 rfl rfl (want1_ok by_ o) ?_)))
  rintro _ t ⟨rfl,u⟩
  refine⟨_,rfl,?_⟩
  have l:=b.trans u
  refine Wn 2 rfl ?_
  by_cases m:0<=by_/\by_<=1048576
  ·refine Wa (.dec (.move rfl) (congrArg not (dT m))) rfl (Wn 2 rfl (W.efg rfl rfl rfl (rfl) rfl rfl (Ef.call go145 rfl rfl (want1_ok le t) ?_)))
   rintro _ y ⟨rfl,x⟩
   refine⟨_,rfl,?_⟩
   have c:=l.trans x
   refine Wn 2 rfl (Nx ?_)
   by_cases n:0<=le/\le<=1048576
   ·refine Cn rfl (congrArg not (dT n)) (Sn (Sq (Sr (Wn 1 rfl (Wa (.nilCheck rfl) rfl (Wa (.field0 fa229_0 rfl) rfl (Wr (.loadB (v:= .map (some ga)) na226 rfl (hp.le c) rfl) rfl (Wn 1 rfl ?_))))))))
    refine Wr (.as (.lookup2 (key:=nm) underlying226 kint z231 rfl rfl (hA.le c)) (by rw[hg]<;>rfl)) rfl ?_
    refine Wn 5 rfl (Nx (Sr (Wn 1 rfl (Nx (WC.condT rfl (Sr (Wn 1 rfl (Nx (Rt (E.thenR (E.retG1 rfl rfl ?_)))))))))))
    exact⟨by rw[if_pos (by unfold wantOk;omega)],c⟩
   refine Cy rfl (congrArg not (dF n)) (Sr (Wn 1 rfl (Nx (Rt (E.thenR (E.retG1 rfl rfl ?_))))))
   exact⟨by rw[if_neg (fun h=>by unfold wantOk at h;omega)],c⟩
  refine Wa (.dec (.move rfl) (congrArg not (dF m))) rfl (Wn 5 rfl (Nx (WC.condT rfl (Sr (Wn 1 rfl (Nx (Rt (E.thenR (E.retG1 rfl rfl ?_)))))))))
  exact⟨by rw[if_neg (fun h=>by unfold wantOk at h;omega)],l⟩
 refine Wa (.dec (.move rfl) (congrArg not (dF i))) rfl (Wn 19 rfl (Nx (WC.condT rfl (Sr (Wn 1 rfl (Nx (Rt (E.thenR (E.retG1 rfl rfl ?_)))))))))
 exact⟨by rw[if_neg (fun h=>by unfold wantOk at h;omega)],b⟩

theorem want_none {gp ga gh ca:Nat}{la:List (Nat×Int×Nat)}(nm:Int)(sc:Nat)(to by_ le:Int)(w:World)(hp:Blk w gp 229 #[.map (some ga),.map (some gh)])(hA:MapG w ikf ptf ga la ca)(hg:getG nm la=none)(n1:gp≠ga):Calls prog 58 #[.pointer (some ⟨gp,0,none⟩),.int .i64 (nm),.int .u64 (((sc:Nat):Int)),.int .i64 (to),.int .i64 (by_),.int .i64 (le)] w fun r w'=>ChP w w' (fun k=>k=ga)/\((¬wantOk nm sc to by_ le/\r= .returned (.int .i64 1)/\MapG w' ikf ptf ga la ca)\/(wantOk nm sc to by_ le/\r= .returned (.int .i64 0)/\∃g,w.heap.size<=g/\Blk w' g 234 #[.int .u64 ((sc:Nat):Int),.int .i64 to,.int .i64 by_,.int .i64 le,.slice none 0 0,.int .i64 0,.bool false,.bool false]/\MapG w' ikf ptf ga (la++[(ca,nm,g)]) (ca+1))):=by
 refine enter func58 rfl rfl ?_
 have f:=ChP.refl w (fun k=>k=ga)
 refine Sr (Wn 1 rfl (Nx (Sr (Wn 1 rfl (Nx (Sq (Sr (Wn 2 rfl ?_))))))))
 by_cases m:nm<0
 ·refine Dt m rfl rfl (Wn 28 rfl (Nx (WC.condT rfl (Sr (Wn 1 rfl (Nx (Rt (E.thenR (E.retG1 rfl rfl ?_)))))))))
  exact⟨f,.inl ⟨(fun h=>by unfold wantOk at h;omega),rfl,hA⟩⟩
 refine Df m rfl rfl (Wn 3 rfl ?_)
 by_cases n:((sc:Nat):Int)=0
 ·refine Dt n rfl rfl (Wn 24 rfl (Nx (WC.condT rfl (Sr (Wn 1 rfl (Nx (Rt (E.thenR (E.retG1 rfl rfl ?_)))))))))
  exact⟨f,.inl ⟨(fun h=>by unfold wantOk at h;omega),rfl,hA⟩⟩
 refine Df n rfl rfl (Wn 1 rfl (W.efg rfl rfl rfl (rfl) rfl rfl (Ef.call go134 rfl rfl (fright_ok sc w) ?_)))
 rintro _ H ⟨rfl,b⟩
 refine⟨_,rfl,?_⟩
 have d:=f.le b
 refine Wn 2 rfl ?_
 by_cases o:sc<q
 ·refine Wa (.dec (.move rfl) (congrArg not (dT o))) rfl (Wn 3 rfl ?_)
  by_cases s:to<1
  ·refine Dt s rfl rfl (Wn 15 rfl (Nx (WC.condT rfl (Sr (Wn 1 rfl (Nx (Rt (E.thenR (E.retG1 rfl rfl ?_)))))))))
   exact⟨d,.inl ⟨(fun h=>by unfold wantOk at h;omega),rfl,(hA.le b)⟩⟩
  refine Df s rfl rfl (Wn 3 rfl ?_)
  by_cases t:1125899906842624<to
  ·refine Dt t rfl rfl (Wn 11 rfl (Nx (WC.condT rfl (Sr (Wn 1 rfl (Nx (Rt (E.thenR (E.retG1 rfl rfl ?_)))))))))
   exact⟨d,.inl ⟨(fun h=>by unfold wantOk at h;omega),rfl,(hA.le b)⟩⟩
  refine Df t rfl rfl (Wn 2 rfl (W.efg rfl rfl rfl (rfl) rfl rfl (Ef.call go145 rfl rfl (want1_ok by_ H) ?_)))
  rintro _ I ⟨rfl,c⟩
  refine⟨_,rfl,?_⟩
  have x:=d.le c
  refine Wn 2 rfl ?_
  by_cases y:0<=by_/\by_<=1048576
  ·refine Wa (.dec (.move rfl) (congrArg not (dT y))) rfl (Wn 2 rfl (W.efg rfl rfl rfl (rfl) rfl rfl (Ef.call go145 rfl rfl (want1_ok le I) ?_)))
   rintro _ Q ⟨rfl,e⟩
   refine⟨_,rfl,?_⟩
   have j:=x.le e
   refine Wn 2 rfl (Nx ?_)
   by_cases z:0<=le/\le<=1048576
   ·refine Cn rfl (congrArg not (dT z)) (Sn (Sq (Sr (Wn 1 rfl (Wa (.nilCheck rfl) rfl (Wa (.field0 fa229_0 rfl) rfl ?_))))))
    have A:=(hp.le (b.trans (c.trans e)))
    refine Wr (.loadB (v:= .map (some ga)) na226 rfl A rfl) rfl (Wn 1 rfl ?_)
    have l:=(hA.le (b.trans (c.trans e)))
    refine Wr (.as (.lookup2 (key:=nm) underlying226 kint z231 rfl rfl l) (by rw[hg]<;>rfl)) rfl ?_
    refine Wn 5 rfl (Nx (Sr (Wn 1 rfl (Nx (WC.condF rfl (Sn (Sr (Wn 1 rfl (Wa (.nilCheck rfl) rfl (Wa (.field0 fa229_0 rfl) rfl (Wr (.loadB (v:= .map (some ga)) na226 rfl A rfl) rfl (Wn 5 rfl (Wa (.buildP [.int .u64 (((sc:Nat):Int)),.int .i64 (to),.int .i64 (by_),.int .i64 (le),.slice none 0 0,.int .i64 (0),.bool false,.bool false] pl234 z234 rfl rfl) rfl ?_)))))))))))))
    refine W.ef rfl rfl rfl (Ef.boxA rfl fun C J R (K:Blk J C 234 #[.int .u64 (((sc:Nat):Int)),.int .i64 (to),.int .i64 (by_),.int .i64 (le),.slice none 0 0,.int .i64 (0),.bool false,.bool false]) D=>?_)
    have L:=j.le D
    refine W.ef0 rfl rfl (Ef.insertG (key:=nm) (u:=C) underlying226 kint rfl rfl rfl (l.le D) (hg) fun N O F=>?_)
    have P:ChP w N (fun k=>k=ga):=L.ch F (fun i hi _=>by cases hi;exact rfl)
    refine Nx (Sr (Wn 1 rfl (Nx (Rt (E.retG1 rfl rfl ?_)))))
    exact⟨P,.inr ⟨(by unfold wantOk;omega),rfl,_,(by have:=j.size;omega),(K.cn F (by have:=l.lt;omega)),O⟩⟩
   refine Cy rfl (congrArg not (dF z)) (Sr (Wn 1 rfl (Nx (Rt (E.thenR (E.retG1 rfl rfl ?_))))))
   exact⟨j,.inl ⟨(fun h=>by unfold wantOk at h;omega),rfl,(hA.le (b.trans (c.trans e)))⟩⟩
  refine Wa (.dec (.move rfl) (congrArg not (dF y))) rfl (Wn 5 rfl (Nx (WC.condT rfl (Sr (Wn 1 rfl (Nx (Rt (E.thenR (E.retG1 rfl rfl ?_)))))))))
  exact⟨x,.inl ⟨(fun h=>by unfold wantOk at h;omega),rfl,(hA.le (b.trans c))⟩⟩
 refine Wa (.dec (.move rfl) (congrArg not (dF o))) rfl (Wn 19 rfl (Nx (WC.condT rfl (Sr (Wn 1 rfl (Nx (Rt (E.thenR (E.retG1 rfl rfl ?_)))))))))
 exact⟨d,.inl ⟨(fun h=>by unfold wantOk at h;omega),rfl,(hA.le b)⟩⟩
end Go.Proofs.YtocheaahlpiajaaGreatDoor

namespace Go.Proofs.YtocheaahlpiajaaGreatDoor
open Tryz
open Go Go.Sx Go.Hsp Go.Num Go.Osp Go.Gsp
set_option maxRecDepth 20000
theorem getD_false {lh:List (Nat×(Int×Int)×Bool)}(ht:∀y∈lh,y.2.2=true){k:Int×Int}(h:(getG k lh).getD false=false):getG k lh=none:=by
  cases e:getG k lh with
  |none=>rfl
  |some v=>
    obtain⟨b,hb⟩:=getG_mem e
    have:=ht _ hb
    rw[e]at h
    simp at h this
    rw[this]at h
    cases h
theorem mayP_twice {p:Pay}{hk:Int×Int->Bool}{x:Part}{ht:Int}(h:(mayP p hk x ht).2=0):hk (keyP x)=false:=by
  cases e:hk (keyP x)
  · rfl
  · exfalso
    unfold mayP at h
    simp only[e]at h
    split at h
    · simp at h
    split at h
    · simp at h
    split at h
    · simp at h
    split at h
    · simp at h
    simp at h
theorem paid_snoc (s:Nat)(l:List Part)(k:Nat)(h:k<l.length):(l.take k).map (paidOf s)++[(⟨(l.getD k noPart).ch,(l.getD k noPart).id,addS s (l.getD k noPart).bl⟩:Paid)]=(l.take (k+1)).map (paidOf s):=by
  rw[List.take_add_one,getS l noPart h,List.map_append]
  rfl
def hkOf (lh:List (Nat×(Int×Int)×Bool)):Int×Int->Bool:=fun k=>(getG k lh).getD false
theorem add_none {gp ga gh ca ck:Nat}{la:List (Nat×Int×Nat)}{lh:List (Nat×(Int×Int)×Bool)}(nm:Int)(y:Part)(ht:Int)(w:World)(hp:Blk w gp 229 #[.map (some ga),.map (some gh)])(hA:MapG w ikf ptf ga la ca)(hg:getG nm la=none):Calls prog 59 #[.pointer (some ⟨gp,0,none⟩),.int .i64 (nm),.agg (partV y).toArray,.int .i64 (ht)] w fun r w'=>r= .returned (.tuple #[.slice none 0 0,.int .i64 5])/\Le w w':=by
 refine enter func59 rfl rfl (Sr (W.ef rfl rfl rfl (Ef.boxA rfl fun d e f h c=>?_)))
 have b:=(Le.refl w).trans c
 refine Wn 2 rfl (Nx (Sr (Wn 1 rfl (Wa (.nilCheck rfl) rfl (Wa (.field0 fa229_0 rfl) rfl (Wr (.loadB (v:= .map (some ga)) na226 rfl (hp.le b) rfl) rfl (Wn 1 rfl (Wr (.as (.lookup1 (key:=nm) underlying226 kint z231 rfl rfl (hA.le b)) (by rw[hg]<;>rfl)) rfl ?_))))))))
 refine Wn 1 rfl (Nx (Sq (Sr (Wn 1 rfl (Wa (.dec (.isNilP (by kernel_rfl) rfl) rfl) rfl (Nx (WC.condT rfl (Sr (Wn 2 rfl (Nx (Rt (E.thenR (E.retG2 rfl rfl rfl ?_)))))))))))))
 exact⟨rfl,b⟩

theorem add_some {gp ga gh ca ck:Nat}{la:List (Nat×Int×Nat)}{lh:List (Nat×(Int×Int)×Bool)}{gq cq:Nat}{Aq:Option Addr}(nm:Int)(p:Pay)(y:Part)(ht:Int)(w:World)(hp:Blk w gp 229 #[.map (some ga),.map (some gh)])(hA:MapG w ikf ptf ga la ca)(hg:getG nm la=some gq)(hq:Blk w gq 234 #[.int .u64 (((p.sec:Nat):Int)),.int .i64 (p.tot),.int .i64 (p.by_),.int .i64 (p.lst),.slice Aq p.held.length cq,.int .i64 (p.sum),.bool (p.ovr),.bool (p.paid)])(hM:MapG w ckf Value.bool gh lh ck)(hO:OVec w 0 125 partV 6 Aq p.held.length cq p.held)(hhl:p.held.length<=1000)(htr:∀z∈lh,z.2.2=true)(n1:gp≠gq)(n2:gp≠gh)(n3:gq≠gh)(n4:rowOf Aq cq≠some gh)(n5:rowOf Aq cq≠some gq)(n6:rowOf Aq cq≠some gp)(n7:rowOf Aq cq≠some ga)(n8:ga≠gq)(n9:ga≠gh):Calls prog 59 #[.pointer (some ⟨gp,0,none⟩),.int .i64 (nm),.agg (partV y).toArray,.int .i64 (ht)] w fun r w'=>ChP w w' (fun k=>k=gq\/k=gh\/rowOf Aq cq=some k)/\(((mayP p (hkOf lh) y ht).2≠0/\r= .returned (.tuple #[.slice none 0 0,.int .i64 (mayP p (hkOf lh) y ht).2])/\Blk w' gq 234 #[.int .u64 (((p.sec:Nat):Int)),.int .i64 (p.tot),.int .i64 (p.by_),.int .i64 (p.lst),.slice Aq p.held.length cq,.int .i64 (p.sum),.bool (p.ovr),.bool (p.paid)]/\OVec w' 0 125 partV 6 Aq p.held.length cq p.held/\MapG w' ckf Value.bool gh lh ck)\/((mayP p (hkOf lh) y ht).2=0/\(mayP p (hkOf lh) y ht).1<p.tot/\r= .returned (.tuple #[.slice none 0 0,.int .i64 0])/\∃A' c',At w Aq cq A' c'/\Blk w' gq 234 #[.int .u64 (((p.sec:Nat):Int)),.int .i64 (p.tot),.int .i64 (p.by_),.int .i64 (p.lst),.slice A' (p.held.length+1) c',.int .i64 ((mayP p (hkOf lh) y ht).1),.bool (p.ovr),.bool (p.paid)]/\OVec w' 0 125 partV 6 A' (p.held.length+1) c' (p.held++[y])/\MapG w' ckf Value.bool gh (lh++[(ck,keyP y,true)]) (ck+1))\/((mayP p (hkOf lh) y ht).2=0/\¬(mayP p (hkOf lh) y ht).1<p.tot/\∃A' c',r= .returned (.tuple #[.slice A' (p.held.length+1) c',.int .i64 0])/\OVec w' w.heap.size 127 paidV 3 A' (p.held.length+1) c' ((p.held++[y]).map (paidOf p.sec))/\Blk w' gq 234 #[.int .u64 (((p.sec:Nat):Int)),.int .i64 (p.tot),.int .i64 (p.by_),.int .i64 (p.lst),.slice none 0 0,.int .i64 ((mayP p (hkOf lh) y ht).1),.bool true,.bool true]/\MapG w' ckf Value.bool gh (delK (p.held++[y]) (lh++[(ck,keyP y,true)])) (ck+1))):=by
 refine enter func59 rfl rfl (Sr (W.ef rfl rfl rfl (Ef.boxA rfl fun aP ao bh (ap:Blk ao aP 125 (partV y).toArray) t=>(Wn 2 rfl (Nx (Sr (Wn 1 rfl (Wa (.nilCheck rfl) rfl (Wa (.field0 fa229_0 rfl) rfl ?_)))))))))
 have X:=(hp.le t)
 refine Wr (.loadB (v:= .map (some ga)) na226 rfl X rfl) rfl (Wn 1 rfl (Wr (.as (.lookup1 (key:=nm) underlying226 kint z231 rfl rfl (hA.le t)) (by rw[hg]<;>rfl)) rfl ?_))
 refine Wn 1 rfl (Nx (Sq (Sr (Wn 1 rfl (Wa (.dec (.isNilP (by kernel_rfl) rfl) rfl) rfl (Nx (WC.condF rfl (Sn (Sr (Wn 2 rfl (Wr (.loadAll ag125 (by rfl) rfl ap) rfl ?_)))))))))))
 refine Wn 1 rfl ?_
 have Y:=(hq.le t)
 have x:=(hM.le t)
 refine W.cl go146 rfl rfl (may_ok3 p y ht ao X Y x (by omega)) ?_
 rintro _ bi ⟨rfl,d⟩
 have L6:=((ChP.refl w (fun k=>k=gq\/k=gh\/rowOf Aq cq=some k)).le t).le d
 refine Wn 5 rfl (Nx (Sq (Sr (Wn 2 rfl (Nx ?_)))))
 by_cases H:((mayP p (hkOf lh) y ht).2)≠0
 ·refine Cy rfl (dT H) (Sr (Wn 3 rfl (Nx (Rt (E.thenR (E.retG2 rfl rfl rfl ?_))))))
  exact⟨L6,.inl ⟨H,rfl,(Y.le d),(hO.le (t.trans d)),(x.le d)⟩⟩
 refine Cn rfl (dF H) (Sn (Sq (WC.draw [0,1,2,3,4,5,6,9,7,8,10,11,12,13,14,15] mixed (by kernel_rfl) fun w7 j=>(Gn 3 rfl (Ga rfl (.nilCheck rfl) (Ga rfl (.field0 fa234_4 rfl) ?_))))))
 have l:=(Y.le (d.trans j))
 refine Gd rfl (.loadB (v:= .slice Aq p.held.length cq) na130 rfl l rfl) ?_
 have aq:=(ap.le (d.trans j))
 refine Gd rfl (.loadAll ag125 (by rfl) rfl aq) ?_
 refine Gn 1 rfl (G.ef rfl rfl rfl rfl rfl (Ef.buildSliceV (len:=1) [_] underlying130 el125 rfl (by simp[Value.cells,partV_row.len]) rfl (by decide) (by decide) ?_))
 intro ar au aQ Q b
 refine⟨fun _=>b,?_⟩
 have av:=(L6.le j).le b
 have Q:Blk au ar 125 (([y]).map partV).flatten.toArray:=Q
 have bj:OVec au w7.heap.size 125 partV 6 (some ⟨ar,0,none⟩) 1 1 ([y]):=Q.ovec aQ partV_row rfl rfl (by decide)
 refine G.ef rfl rfl rfl rfl rfl (Ef.vpush (a:=y) underlying130 el125 underlying130 partV_row rfl (hO.le (t.trans (d.trans (j.trans b)))) rfl Q (by omega) (by unfold maxLen;omega) (Nat.zero_le _) ?_)
 intro R S aR Z K f
 refine noT (by kernel_rfl) ?_
 have aS:ChP w aR (fun k=>k=gq\/k=gh\/rowOf Aq cq=some k):=av.ch K (fun i hi _=>(fun i hi=>Or.inr (Or.inr hi)) i hi)
 refine Ga rfl (.nilCheck rfl) (Ga rfl (.field0 fa234_4 rfl) (G.ef0 rfl rfl rfl rfl (Ef.store sz130 rfl rfl ((l.le b).ch K n5) (by first|decide|(simp;done)) (rfl) ?_)))
 intro aw aa I
 refine noT (by kernel_rfl) ?_
 have aa:Blk aw gq 234 #[.int .u64 (((p.sec:Nat):Int)),.int .i64 (p.tot),.int .i64 (p.by_),.int .i64 (p.lst),.slice R (p.held.length+1) S,.int .i64 (p.sum),.bool (p.ovr),.bool (p.paid)]:=aa
 have aT:ChP w aw (fun k=>k=gq\/k=gh\/rowOf Aq cq=some k):=aS.ch I (fun i hi _=>by cases hi;exact Or.inl rfl)
 refine Ga rfl (.nilCheck rfl) (Ga rfl (.field0 fa234_5 rfl) (G.ef0 rfl rfl rfl rfl (Ef.store sz3 rfl rfl aa (by first|decide|(simp;done)) (rfl) ?_)))
 intro ax ab J
 refine noT (by kernel_rfl) ?_
 have ab:Blk ax gq 234 #[.int .u64 (((p.sec:Nat):Int)),.int .i64 (p.tot),.int .i64 (p.by_),.int .i64 (p.lst),.slice R (p.held.length+1) S,.int .i64 ((mayP p (hkOf lh) y ht).1),.bool (p.ovr),.bool (p.paid)]:=ab
 have aU:ChP w ax (fun k=>k=gq\/k=gh\/rowOf Aq cq=some k):=aT.ch J (fun i hi _=>by cases hi;exact Or.inl rfl)
 refine G.nil (E.thenN (Sq (WC.draw [0,1,2,3,4,5,6,7,8,9] mixed (by kernel_rfl) fun w8 C=>?_)))
 have aV:=aU.le C
 refine Gn 1 rfl (Ga rfl (.nilCheck rfl) (Ga rfl (.field0 fa229_1 rfl) ?_))
 have ay:=(((((X.le (d.trans (j.trans b))).ch K n6).ch I (fun h=>(Ne.symm n1) (oI h))).ch J (fun h=>(Ne.symm n1) (oI h))).le C)
 refine Gd rfl (.loadB (v:= .map (some gh)) na227 rfl ay rfl) (Ga rfl (.field0 fa125_0 rfl) ?_)
 have az:=(((((aq.le b).ch K (hO.rn (by omega))).cn I (by have:=hq.lt;omega)).cn J (by have:=hq.lt;omega)).le C)
 refine Gd rfl (.loadB (v:= .int .i64 (y.ch)) na3 rfl az rfl) (Ga rfl (.field0 fa125_1 rfl) (Gd rfl (.loadB (v:= .int .i64 (y.id)) na3 rfl az rfl) (Ga rfl (.buildP (ckV (y.ch,y.id)) pl238 z238 rfl rfl) (G.ef0 rfl rfl rfl rfl (Ef.insertG (key:=(y.ch,y.id)) (u:=true) underlying227 kcond rfl rfl rfl (((((x.le (d.trans (j.trans b))).ch K n4).ch I (fun h=>n3 (oI h))).ch J (fun h=>n3 (oI h))).le C) (getD_false htr (mayP_twice (Classical.not_not.1 H))) ?_)))))
 intro aA aB L
 refine noT (by kernel_rfl) ?_
 have aC:ChP w aA (fun k=>k=gq\/k=gh\/rowOf Aq cq=some k):=aV.ch L (fun i hi _=>by cases hi;exact Or.inr (Or.inl rfl))
 refine G.nil (E.thenN (Sq (Sr (Wn 2 rfl (Wa (.nilCheck rfl) rfl (Wa (.field0 fa234_1 rfl) rfl ?_))))))
 have ac:=((ab.le C).ch L (fun h=>(Ne.symm n3) (oI h)))
 refine Wr (.loadB (v:= .int .i64 (p.tot)) na3 rfl ac rfl) rfl (Wn 1 rfl (Nx ?_))
 by_cases T:((mayP p (hkOf lh) y ht).1)<p.tot
 ·refine Cy rfl (dT T) (Sr (Wn 2 rfl (Nx (Rt (E.thenR ?_)))))
  have aW:=((((Z.ch I (fun q hq=>by cases hq;exact(f.off (by have:=l.lt;have:=b.size;omega) n5))).ch J (fun q hq=>by cases hq;exact(f.off (by have:=l.lt;have:=b.size;omega) n5))).le C).ch L (fun q hq=>by cases hq;exact(f.off (by have:=x.lt;have:=d.size;have:=j.size;have:=b.size;omega) n4)))
  refine E.retG2 rfl rfl rfl ?_
  exact⟨aC,.inr (.inl ⟨Classical.not_not.1 H,T,rfl,_,_,(fun g h=>(f g h).imp_right (fun z=>Nat.le_trans av.size z)),ac,aW,aB⟩)⟩
 refine Cn rfl (dF T) (Sn (Sq (Sr (Wn 2 rfl ?_))))
 have aE:=((((Z.ch I (fun q hq=>by cases hq;exact(f.off (by have:=l.lt;have:=b.size;omega) n5))).ch J (fun q hq=>by cases hq;exact(f.off (by have:=l.lt;have:=b.size;omega) n5))).le C).ch L (fun q hq=>by cases hq;exact(f.off (by have:=x.lt;have:=d.size;have:=j.size;have:=b.size;omega) n4)))
 refine W.cl go147 rfl rfl (clear_ok (nq:=(p.held.length+1)) ({p with held:=p.held++[y],sum:=(mayP p (hkOf lh) y ht).1}) aA (ay.ch L (fun h=>(Ne.symm n2) (oI h))) ac aB aE (by omega) n1 n2 n3 (f.off (by have:=x.lt;have:=d.size;have:=j.size;have:=b.size;omega) n4) (f.off (by have:=l.lt;have:=b.size;omega) n5)) ?_
 rintro _ N ⟨rfl,ad,aF,aG⟩
 have ae:=aC.sub aG (fun i hi hlt=>Or.elim hi (fun hi=>(by subst hi;exact Or.inl rfl)) (fun hi=>(by subst hi;exact Or.inr (Or.inl rfl))))
 refine Wr (.len underlying130 rfl) rfl (Wn 1 rfl (Nx (WC.block ?_)))
 have aH:=(aE.chP aG (fun q hqq hF=>Or.elim hF (fun hF=>(by subst hF;exact(f.off (by have:=l.lt;have:=b.size;omega) n5) hqq)) (fun hF=>(by subst hF;exact(f.off (by have:=x.lt;have:=d.size;have:=j.size;have:=b.size;omega) n4) hqq))))
 refine WC.loop (ι:=Nat×(Option Addr)×Nat) (fun⟨k,A,c⟩=>[(8,.slice A k c),(10,.pointer (some ⟨gq,0,none⟩)),(64,.slice R (p.held.length+1) S),(65,.int .i64 ((((p.held.length+1):Nat):Int))),(66,.int .i64 (((k:Nat):Int)))]) (fun⟨k,A,c⟩ m=>(k<=p.held.length+1)/\ChP w m (fun k=>k=gq\/k=gh\/rowOf Aq cq=some k)/\N.heap.size<=m.heap.size/\OVec m N.heap.size 127 paidV 3 A k c (((p.held++[y]).take k).map (paidOf p.sec))/\Blk m gq 234 #[.int .u64 (((p.sec:Nat):Int)),.int .i64 (p.tot),.int .i64 (p.by_),.int .i64 (p.lst),.slice none 0 0,.int .i64 ((mayP p (hkOf lh) y ht).1),.bool true,.bool (p.paid)]/\OVec m 0 125 partV 6 R (p.held.length+1) S (p.held++[y])/\MapG m ckf Value.bool gh (delK (p.held++[y]) (lh++[(ck,(y.ch,y.id),true)])) (ck+1)) (fun⟨k,A,c⟩=>p.held.length+1-k) (0,none,0) ?_ ?_ ?_
 ·exact .of rfl
 ·exact⟨by omega,ae,Nat.le_refl _,(OVec.nil N N.heap.size 127 paidV 3 none),ad,aH,aF⟩
 rintro⟨k,A,c⟩ m ⟨hk,af,aX,U,ah,ai,aj⟩
 have aY:N.heap.size<=m.heap.size:=by omega
 have hln:(p.held++[y]).length=p.held.length+1:=by simp
 refine Sr (Wn 1 rfl (Nx (Sq ?_)))
 by_cases c3:((k:Nat):Int)<(((p.held.length+1):Nat):Int)
 ·refine Cy rfl (dT c3) (Sn (Sq (WC.block (Sr (Wa (.idxS (k) underlying130 sz125 rfl rfl (Z.vec.isSome partV_row (by omega)) (rfl) (by omega)) rfl (Wr (.vload ag125 rfl ai.vec partV_row (getS (p.held++[y]) noPart (by first|omega|(simp only[List.length_cons,List.length_nil];omega)))) rfl ?_))))))
  refine W.ef rfl rfl rfl (Ef.allocA z125 fun aI aZ a0 (a1:Blk aZ aI 125 (partV noPart).toArray) D=>?_)
  have a2:=af.le D
  refine W.ef0 rfl rfl (Ef.storeAll sz125 (by rfl) rfl rfl a1 (by simp only[List.size_toArray,partV_row.len]) (partV_row.one ((p.held++[y]).getD k noPart)) ?_)
  intro aJ ak F
  have ak:Blk aJ aI 125 (partV ((p.held++[y]).getD k noPart)).toArray:=ak
  have a3:ChP w aJ (fun k=>k=gq\/k=gh\/rowOf Aq cq=some k):=a2.ch F (fun i hi hlt=>by cases hi;exact absurd hlt (by have:=af.size;have:=a0;omega))
  refine Nx (WC.draw [0,1,2,3,4,5,6,7,8,9,10,11,12,13,14,15] mixed (by kernel_rfl) fun a4 n=>(Gn 1 rfl (Ga rfl (.field0 fa125_0 rfl) ?_)))
  have al:=(ak.le n)
  refine Gd rfl (.loadB (v:= .int .i64 (((p.held++[y]).getD k noPart).ch)) na3 rfl al rfl) (Ga rfl (.field0 fa125_1 rfl) (Gd rfl (.loadB (v:= .int .i64 (((p.held++[y]).getD k noPart).id)) na3 rfl al rfl) (Gn 1 rfl (Ga rfl (.nilCheck rfl) (Ga rfl (.field0 fa234_0 rfl) ?_)))))
  have aK:=(((ah.le D).cn F (by have:=ah.lt;omega)).le n)
  refine Gd rfl (.loadB (v:= .int .u64 (((p.sec:Nat):Int))) na28 rfl aK rfl) (Ga rfl (.field0 fa125_5 rfl) (Gd rfl (.loadB (v:= .int .u64 (((((p.held++[y]).getD k noPart).bl:Nat):Int))) na28 rfl al rfl) (G.ef rfl rfl rfl rfl rfl (Ef.call go148 rfl rfl (fadd_ok p.sec (((p.held++[y]).getD k noPart).bl) a4) ?_))))
  rintro _ a5 ⟨rfl,o⟩
  refine⟨_,rfl,?_⟩
  refine⟨fun _=>o,?_⟩
  refine Ga rfl (.buildP (paidV (⟨((p.held++[y]).getD k noPart).ch,((p.held++[y]).getD k noPart).id,addS p.sec (((p.held++[y]).getD k noPart).bl)⟩:Paid)) pl127 z127 rfl rfl) (G.ef rfl rfl rfl rfl rfl (Ef.buildSliceV (len:=1) [_] underlying121 el127 rfl (by simp[Value.cells,paidV_row.len]) rfl (by decide) (by decide) ?_))
  intro aL aM a6 V s
  refine⟨fun _=>s,?_⟩
  have a7:=((a3.le n).le o).le s
  have V:Blk aM aL 127 (([(⟨((p.held++[y]).getD k noPart).ch,((p.held++[y]).getD k noPart).id,addS p.sec (((p.held++[y]).getD k noPart).bl)⟩:Paid)]).map paidV).flatten.toArray:=V
  have bk:OVec aM a5.heap.size 127 paidV 3 (some ⟨aL,0,none⟩) 1 1 ([(⟨((p.held++[y]).getD k noPart).ch,((p.held++[y]).getD k noPart).id,addS p.sec (((p.held++[y]).getD k noPart).bl)⟩:Paid)]):=V.ovec a6 paidV_row rfl rfl (by decide)
  have O:=(((U.le D).cb F (U.rn (by omega))).le (n.trans (o.trans s)))
  refine G.ef rfl rfl rfl rfl rfl (Ef.vpush (a:=(⟨((p.held++[y]).getD k noPart).ch,((p.held++[y]).getD k noPart).id,addS p.sec (((p.held++[y]).getD k noPart).bl)⟩:Paid)) underlying121 el127 underlying121 paidV_row rfl O rfl V (by omega) (by unfold maxLen;omega) (by have:=aY;have:=D.size;have:=F.size;have:=n.size;have:=o.size;have:=s.size;omega) ?_)
  intro a8 a9 ba bb P bm
  refine noT (by kernel_rfl) ?_
  have bc:ChP w ba (fun k=>k=gq\/k=gh\/rowOf Aq cq=some k):=a7.ch P (fun i hi hlt=>absurd hlt (by have:=(O.row hi).1;have:=ae.size;omega))
  refine Gn 1 rfl (G.nil (E.blkN (E.thenN (WC.region (Wa (.add rfl rfl (by omega)) rfl (Wn 1 rfl (W.nil ?_)))))))
  have bd:=((aK.le (o.trans s)).ch P (O.rl (by have:=ad.lt;omega)))
  have be:=((((ai.le D).cb F (ai.rn (by omega))).le (n.trans (o.trans s))).ch P ((Apart.symm (fun q h1 h2=>by have:=(aH.row h1).2;have:=(O.row h2).1;omega))))
  have bf:=((((aj.le D).cn F (by have:=aj.lt;omega)).le (n.trans (o.trans s))).ch P (O.rl (by have:=aF.lt;omega)))
  refine E.again (k+1,a8,a9) (.of rfl) ?_ ?_
  ·exact⟨by omega,bc,by have:=aX;have:=D.size;have:=F.size;have:=n.size;have:=o.size;have:=s.size;have:=P.size;omega,(bb.cast rfl (paid_snoc p.sec (p.held++[y]) k (by omega))),bd,be,bf⟩
  first|omega|(simp only[];omega)
 refine Cn rfl (dF c3) (WC.exit (E.thenX (E.thenX (E.blkH (E.thenN (Sr (Wn 1 rfl (Wa (.nilCheck rfl) rfl (Wa (.field0 fa234_7 rfl) rfl (W.ef0 rfl rfl (Ef.store sz4 rfl rfl ah (by first|decide|(simp;done)) (rfl) ?_)))))))))))
 intro aO am an
 have am:Blk aO gq 234 #[.int .u64 (((p.sec:Nat):Int)),.int .i64 (p.tot),.int .i64 (p.by_),.int .i64 (p.lst),.slice none 0 0,.int .i64 ((mayP p (hkOf lh) y ht).1),.bool true,.bool true]:=am
 have bg:ChP w aO (fun k=>k=gq\/k=gh\/rowOf Aq cq=some k):=af.ch an (fun i hi _=>by cases hi;exact Or.inl rfl)
 refine Nx (Sr (Wn 3 rfl (Nx (Rt (E.retG2 rfl rfl rfl ?_)))))
 obtain rfl:k=p.held.length+1:=(by omega);exact⟨bg,.inr (.inr ⟨Classical.not_not.1 H,T,_,_,rfl,(by have e:=((U.cb an (U.rl (by have:=ad.lt;omega))).mono ae.size);rw[List.take_of_length_le (by omega)]at e;exact e),am,(aj.ch an (fun h=>n3 (oI h)))⟩)⟩
end Go.Proofs.YtocheaahlpiajaaGreatDoor

namespace Go.Proofs.YtocheaahlpiajaaGreatDoor
open Tryz
open Go Go.Sx Go.Hsp Go.Num Go.Osp Go.Gsp
set_option maxRecDepth 20000
structure Ent where
  born:Nat
  name:Int
  g:Nat
  A:Option Addr
  c:Nat
  pay:Pay
def Ent.arr (e:Ent):Array Value:=#[.int .u64 (((e.pay.sec:Nat):Int)),.int .i64 (e.pay.tot),.int .i64 (e.pay.by_),.int .i64 (e.pay.lst),.slice e.A e.pay.held.length e.c,.int .i64 (e.pay.sum),.bool (e.pay.ovr),.bool (e.pay.paid)]
def Ent.has (e:Ent)(k:Nat):Prop:=k=e.g\/rowOf e.A e.c=some k
def PayAt (w:World)(e:Ent):Prop:=Blk w e.g 234 e.arr/\OVec w 0 125 partV 6 e.A e.pay.held.length e.c e.pay.held
def Pays (w:World)(L:List Ent):Prop:=∀e∈L,PayAt w e
section
variable {w w':World}{L:List Ent}{e:Ent}
theorem PayAt.chP {F:Nat->Prop}(h:PayAt w e)(hc:ChP w w' F)(hne:∀k,e.has k->¬F k):PayAt w' e:=⟨h.1.chP hc (hne _ (.inl rfl)),h.2.chP hc (fun g hg=>hne g (.inr hg))⟩
theorem PayAt.lt (h:PayAt w e){k:Nat}(hk:e.has k):k<w.heap.size:=by
  rcases hk with rfl|hk
  · exact h.1.lt
  · exact(h.2.row hk).2
theorem Pays.chP {F:Nat->Prop}(h:Pays w L)(hc:ChP w w' F)(hne:∀k,(∃e∈L,e.has k)->¬F k):Pays w' L:=fun e he=>(h e he).chP hc (fun k hk=>hne k ⟨e,he,hk⟩)
theorem Pays.ch {r:Option Nat}(h:Pays w L)(hc:Ch w w' r)(hne:∀k,r=some k->∀e∈L,¬e.has k):Pays w' L:=h.chP (hc.chP (F:=fun k=>r=some k) (fun i hi=>hi)) (fun k hk hr=>by obtain⟨e,he,hh⟩:=hk;exact hne k hr e he hh)
theorem Pays.le (h:Pays w L)(hl:Le w w'):Pays w' L:=h.chP (hl.chP (fun _=>False)) (fun _ _ hf=>hf)
theorem Pays.lt (h:Pays w L){e:Ent}(he:e∈L){k:Nat}(hk:e.has k):k<w.heap.size:=(h e he).lt hk
end
def laOf (L:List Ent):List (Nat×Int×Nat):=L.map fun e=>(e.born,e.name,e.g)
theorem laOf_names (L:List Ent):(laOf L).map (fun x=>x.2.1)=L.map (·.name):=by simp[laOf,List.map_map,Function.comp_def]
structure Sep (gp ga gh:Nat)(L:List Ent):Prop where
  names:(L.map (·.name)).Nodup
  pw:∀a∈L,∀b∈L,a.name≠b.name->∀k,a.has k->¬b.has k
  own:∀e∈L,rowOf e.A e.c≠some e.g
  p:∀e∈L,¬e.has gp
  a:∀e∈L,¬e.has ga
  h:∀e∈L,¬e.has gh
  pa:gp≠ga
  ph:gp≠gh
  ah:ga≠gh
theorem nodup_name {L:List Ent}(h:(L.map (·.name)).Nodup){a b:Ent}(ha:a∈L)(hb:b∈L)(hn:a.name=b.name):a=b:=nodup_inj (·.name) L h ha hb hn
theorem getG_laOf {L:List Ent}(h:(L.map (·.name)).Nodup){e:Ent}(he:e∈L):getG e.name (laOf L)=some e.g:=by
  cases d:getG e.name (laOf L)with
  |none=>
    have:=getG_none.1 d (e.born,e.name,e.g) (List.mem_map.2 ⟨e,he,rfl⟩)
    exact absurd rfl this
  |some v=>
    obtain⟨b,hb⟩:=getG_mem d
    obtain⟨i,f,c⟩:=List.mem_map.1 hb
    simp only[Prod.mk.injEq]at c
    have:=nodup_name h f he c.2.1
    subst this
    rw[c.2.2]
def lateE (ht:Int)(e:Ent):Ent:=if dueP ht e.pay then{e with A:=none,c:=0,pay:={e.pay with held:=[],ovr:=true}}else e
theorem lateE_name (ht:Int)(e:Ent):(lateE ht e).name=e.name:=by unfold lateE;split<;>rfl
theorem lateE_has {ht:Int}{e:Ent}{k:Nat}(h:(lateE ht e).has k):e.has k:=by
  unfold lateE at h
  split at h
  · rcases h with h|h
    · exact .inl h
    · simp[rowOf]at h
  · exact h
def lateL (ht:Int)(L:List Ent)(ns:List Int)(k:Nat):List Ent:=L.map fun e=>if e.name∈ns.take k then lateE ht e else e
def lateOut (ht:Int)(L:List Ent)(n:Int):List Part:=match L.find? (fun e=>decide (e.name=n))with
  |some e=>if dueP ht e.pay then e.pay.held else[]
  |none=>[]
def outK (ht:Int)(L:List Ent)(ns:List Int)(k:Nat):List Part:=(ns.take k).flatMap (lateOut ht L)
theorem lateL_zero (ht:Int)(L:List Ent)(ns:List Int):lateL ht L ns 0=L:=by simp[lateL]
theorem lateL_mem {ht:Int}{L:List Ent}{ns:List Int}{k:Nat}{x:Ent}(h:x∈lateL ht L ns k):∃e∈L,x.name=e.name/\(∀j,x.has j->e.has j):=by
  obtain⟨e,he,rfl⟩:=List.mem_map.1 h
  refine⟨e,he,?_,?_⟩
  · split
    · exact lateE_name ht e
    · rfl
  · intro j
    split
    · exact lateE_has
    · exact id
theorem takeS {ns:List Int}{k:Nat}(hk:k<ns.length):ns.take (k+1)=ns.take k++[ns.getD k 0]:=by rw[List.take_add_one,getS ns 0 hk];rfl
theorem not_before {ns:List Int}(hn:ns.Nodup){k:Nat}(hk:k<ns.length):ns.getD k 0∉ns.take k:=by
  intro h
  have b:(ns.take (k+1)).Nodup:=hn.sublist (List.take_sublist _ _)
  rw[takeS hk,List.nodup_append]at b
  exact b.2.2 _ h _ (by simp) rfl
theorem late_open {w:World}{L:List Ent}{ns:List Int}{ht:Int}{k gp ga gh:Nat}{B:Nat}(hS:Sep gp ga gh L)(hP:Pays w (lateL ht L ns k))(hns:ns.Perm ((laOf L).map fun x=>x.2.1))(hk:k<ns.length)(hB:∀e∈L,∀k,e.has k->k<B):
    ∃(b gq:Nat) (Aq:Option Addr) (cq:Nat) (p:Pay),(⟨b,ns.getD k 0,gq,Aq,cq,p⟩:Ent)∈L/\getG (ns.getD k 0) (laOf L)=some gq/\Blk w gq 234 #[.int .u64 (((p.sec:Nat):Int)),.int .i64 (p.tot),.int .i64 (p.by_),.int .i64 (p.lst),.slice Aq p.held.length cq,.int .i64 (p.sum),.bool (p.ovr),.bool (p.paid)]/\OVec w 0 125 partV 6 Aq p.held.length cq p.held/\
      Pays w ((lateL ht L ns k).filter fun x=>decide (x.name≠ns.getD k 0))/\gp≠gq/\gq≠gh/\ga≠gq/\rowOf Aq cq≠some gp/\rowOf Aq cq≠some ga/\rowOf Aq cq≠some gh/\rowOf Aq cq≠some gq/\
      (∀e∈(lateL ht L ns k).filter (fun x=>decide (x.name≠ns.getD k 0)),¬e.has gq)/\(∀e∈(lateL ht L ns k).filter (fun x=>decide (x.name≠ns.getD k 0)),¬e.has gh)/\(∀e∈(lateL ht L ns k).filter (fun x=>decide (x.name≠ns.getD k 0)),∀j,e.has j->j<B):=by
  rw[laOf_names]at hns
  have hnd:ns.Nodup:=hns.nodup_iff.2 hS.names
  have hm:ns.getD k 0∈L.map (·.name):=hns.mem_iff.1 (List.mem_of_getElem? (getS ns 0 hk))
  obtain⟨e,he,hn⟩:=List.mem_map.1 hm
  have hel:e∈lateL ht L ns k:=List.mem_map.2 ⟨e,he,by rw[if_neg];rw[hn];exact not_before hnd hk⟩
  have c:=hP e hel
  have hf:∀x∈(lateL ht L ns k).filter (fun x=>decide (x.name≠ns.getD k 0)),∃y∈L,y.name≠e.name/\∀j,x.has j->y.has j:=by
    intro x hx
    obtain⟨d,f⟩:=List.mem_filter.1 hx
    obtain⟨y,hy,hyn,hyh⟩:=lateL_mem d
    refine⟨y,hy,?_,hyh⟩
    rw[<-hyn,hn]
    simpa using f
  obtain⟨b,n,gq,Aq,cq,p⟩:=e
  simp only at hn
  subst hn
  refine⟨b,gq,Aq,cq,p,he,getG_laOf hS.names he,c.1,c.2,fun x hx=>hP x (List.mem_filter.1 hx).1,fun h=>hS.p _ he (.inl h),fun h=>hS.h _ he (.inl h.symm),fun h=>hS.a _ he (.inl h),fun h=>hS.p _ he (.inr h),fun h=>hS.a _ he (.inr h),fun h=>hS.h _ he (.inr h),fun h=>hS.own _ he h,?_,?_,?_⟩
  · intro x hx hh
    obtain⟨y,hy,hyn,hyh⟩:=hf x hx
    exact hS.pw y hy _ he hyn _ (hyh _ hh) (.inl rfl)
  · intro x hx hh
    obtain⟨y,hy,hyn,hyh⟩:=hf x hx
    exact hS.h y hy (hyh _ hh)
  · intro x hx j hh
    obtain⟨y,hy,hyn,hyh⟩:=hf x hx
    exact hB y hy j (hyh _ hh)
theorem late_close {w:World}{L:List Ent}{ns:List Int}{ht:Int}{k:Nat}{e:Ent}(hN:(L.map (·.name)).Nodup)(h:Pays w ((lateL ht L ns k).filter fun x=>decide (x.name≠ns.getD k 0)))(he:e∈L)(hn:e.name=ns.getD k 0)(hk:k<ns.length)(h2:PayAt w (lateE ht e)):Pays w (lateL ht L ns (k+1)):=by
  intro x hx
  obtain⟨b,d,rfl⟩:=List.mem_map.1 hx
  by_cases hc:b.name=ns.getD k 0
  · have:=nodup_name hN d he (hc.trans hn.symm)
    subst this
    rw[if_pos (by rw[takeS hk,hc];simp)]
    exact h2
  · refine h _ (List.mem_filter.2 ⟨List.mem_map.2 ⟨b,d,?_⟩,?_⟩)
    · have:b.name∈ns.take (k+1)↔b.name∈ns.take k:=by rw[takeS hk];simp[-List.getD_eq_getElem?_getD,hc]
      by_cases c:b.name∈ns.take k
      · rw[if_pos c,if_pos (this.2 c)]
      · rw[if_neg c,if_neg (fun h=>c (this.1 h))]
    · have:(if b.name∈ns.take (k+1)then lateE ht b else b).name=b.name:=by split;exact lateE_name ht b;rfl
      rw[this]
      simpa[-List.getD_eq_getElem?_getD]using hc
theorem outK_next {L:List Ent}{ns:List Int}{ht:Int}{k:Nat}{e:Ent}(hN:(L.map (·.name)).Nodup)(he:e∈L)(hn:e.name=ns.getD k 0)(hk:k<ns.length):outK ht L ns (k+1)=outK ht L ns k++(if dueP ht e.pay then e.pay.held else[]):=by
  unfold outK
  rw[takeS hk,List.flatMap_append,List.flatMap_singleton,<-hn]
  congr 1
  unfold lateOut
  cases hf:L.find? (fun x=>decide (x.name=e.name))with
  |none=>
    have:=List.find?_eq_none.1 hf e he
    simp at this
  |some y=>
    have b:=List.mem_of_find?_eq_some hf
    have c:=List.find?_some hf
    have:=nodup_name hN b he (by simpa using c)
    subst this
    rfl
theorem delK_delK (a b:List Part)(m:List (Nat×(Int×Int)×Bool)):delK b (delK a m)=delK (a++b) m:=by
  unfold delK
  rw[List.filter_filter]
  apply List.filter_congr
  intro y _
  rw[List.any_append]
  simp[Bool.and_comm]
theorem lateL_all {L:List Ent}{ns:List Int}{ht:Int}{k:Nat}(hns:ns.Perm ((laOf L).map fun x=>x.2.1))(hk:ns.length<=k):lateL ht L ns k=L.map (lateE ht):=by
  rw[laOf_names]at hns
  unfold lateL
  apply List.map_congr_left
  intro e he
  rw[List.take_of_length_le hk,if_pos (hns.mem_iff.2 (List.mem_map.2 ⟨e,he,rfl⟩))]
theorem late_ok {gp ga gh ca ck:Nat}{L:List Ent}{lh:List (Nat×(Int×Int)×Bool)}(ht:Int)(w:World)(hp:Blk w gp 229 #[.map (some ga),.map (some gh)])(hA:MapG w ikf ptf ga (laOf L) ca)(hM:MapG w ckf Value.bool gh lh ck)(hP:Pays w L)(hS:Sep gp ga gh L)(hr:∀e∈L,inI e.name)(hl:L.length<=1000)(hhl:∀e∈L,e.pay.held.length<=1000):Calls prog 62 #[.pointer (some ⟨gp,0,none⟩),.int .i64 (ht)] w fun r w'=>∃(ns:List Int) (m:Nat) (A:Option Addr) (c:Nat),r= .returned (.slice A m c)/\ns.Perm (L.map (·.name))/\ns.Pairwise (· <= ·)/\OVec w' w.heap.size 125 partV 6 A m c (ns.flatMap (lateOut ht L))/\MapG w' ckf Value.bool gh (delK (ns.flatMap (lateOut ht L)) lh) ck/\Pays w' (L.map (lateE ht))/\ChP w w' (fun k=>k=gh\/∃e∈L,k=e.g):=by
 have hold:∀e∈L,∀k,e.has k->k<w.heap.size:=fun e he k hk=>hP.lt he hk
 have T:∀x∈laOf L,inI x.2.1:=fun x hx=>by obtain⟨e,he,rfl⟩:=List.mem_map.1 hx;exact hr e he
 have U:(laOf L).length<=1000000:=by simp only[laOf,List.length_map];omega
 have ap:(laOf L).length<=1000:=by simp only[laOf,List.length_map];omega
 have n1:=hS.pa;have J:=hS.ph;have V:=hS.ah
 refine enter func62 rfl rfl ?_
 have K:=ChP.refl w (fun k=>k=gh\/∃e∈L,k=e.g)
 refine Sr (Wn 1 rfl (Nx (Sq (Sr (Wn 1 rfl (W.cl go150 rfl rfl (names_ok w hp hA T U) ?_))))))
 rintro _ s ⟨An,cn,ns,rfl,hpm,hpw,hon,l⟩
 have n:=K.le l
 refine Wr (.len underlying23 rfl) rfl (Wn 1 rfl (Nx (WC.block ?_)))
 have H:=(hM.le l)
 have X:=(hP.le l)
 have N:=(hp.le l)
 have O:=(hA.le l)
 refine WC.loop (ι:=Nat×Nat×(Option Addr)×Nat) (fun⟨k,m,A,c⟩=>[(0,.pointer (some ⟨gp,0,none⟩)),(1,.int .i64 (ht)),(4,.slice A m c),(9,.slice An ((laOf L).length) cn),(10,.int .i64 ((((laOf L).length:Nat):Int))),(11,.int .i64 (((k:Nat):Int)))]) (fun⟨k,m,A,c⟩ b=>(k<=(laOf L).length)/\(m<=k*1000)/\ChP w b (fun k=>k=gh\/∃e∈L,k=e.g)/\s.heap.size<=b.heap.size/\Blk b gp 229 #[.map (some ga),.map (some gh)]/\MapG b ikf ptf ga (laOf L) ca/\MapG b ckf Value.bool gh (delK (outK ht L ns k) lh) ck/\OVec b s.heap.size 125 partV 6 A m c (outK ht L ns k)/\OVec b w.heap.size 3 iv 1 An ((laOf L).length) cn ns/\Pays b (lateL ht L ns k)) (fun⟨k,m,A,c⟩=>(laOf L).length-k) (0,0,none,0) ?_ ?_ ?_
 ·exact .of rfl
 ·exact⟨Nat.zero_le _,by omega,n,Nat.le_refl _,N,O,(by simp only[outK,List.take_zero,List.flatMap_nil,delK_nil];exact H),(OVec.nil s s.heap.size 125 partV 6 none),hon,(by rw[lateL_zero];exact X)⟩
 rintro⟨k,m,A,c⟩ b ⟨hk,hm,z,I,t,C,D,h,o,P⟩
 have Y:s.heap.size<=b.heap.size:=by omega
 have aq:w.heap.size<=b.heap.size:=by have:=l.size;omega
 have hnl:=hon.1
 refine Sr (Wn 1 rfl (Nx (Sq ?_)))
 by_cases u:((k:Nat):Int)<(((laOf L).length:Nat):Int)
 ·refine Cy rfl (dT u) (Sn (Sq (WC.block (Sr (Wa (.idxS (k) underlying23 sz3 rfl rfl (hon.vec.isSome iv_row (by omega)) (rfl) (by omega)) rfl (Wr (.vone (v:= .int .i64 ((ns.getD k 0))) na3 rfl o.vec iv_row (getS ns 0 (by omega)) rfl) rfl (Wn 1 rfl (Nx (Sr (Wn 1 rfl (Wa (.nilCheck rfl) rfl ?_)))))))))))
  refine Wa (.field0 fa229_0 rfl) rfl (Wr (.loadB (v:= .map (some ga)) na226 rfl t rfl) rfl (Wn 1 rfl ?_))
  have hkn:k<ns.length:=by omega
  obtain⟨bq,gq,Aq,cq,p,heL,hg,hq,hO,hR,Q,Z,m3,m4,m5,R,S,m8,m9,aa⟩:=late_open hS P hpm hkn hold
  have hgq:gq<w.heap.size:=hold _ heL gq (.inl rfl)
  have hpl:p.held.length<=1000:=hhl _ heL
  refine Wr (.as (.lookup1 (key:=(ns.getD k 0)) underlying226 kint z231 rfl rfl C) (by rw[hg]<;>rfl)) rfl ?_
  refine Wn 1 rfl (Nx (Sr (Wn 1 rfl (Wa (.nilCheck rfl) rfl (Wa (.field0 fa234_6 rfl) rfl (Wr (.loadB (v:= .bool (p.ovr)) na4 rfl hq rfl) rfl (Wn 1 rfl ?_)))))))
  by_cases y:p.ovr=true
  ·refine Wa (.dec (.move rfl) (congrArg not (y))) rfl (Wn 7 rfl (Nx (WC.condF rfl (WC.skip (E.blkN (E.thenN (WC.region (Wa (.add rfl rfl (by omega)) rfl (Wn 1 rfl (W.nil ?_))))))))))
   have hdu:dueP ht p=false:=by unfold dueP;simp[u,y]
   have hno:outK ht L ns (k+1)=outK ht L ns k:=by rw[outK_next hS.names heL rfl hkn];simp[hdu]
   refine E.again (k+1,m,A,c) (.of rfl) ?_ ?_
   ·exact⟨by omega,by omega,z,by have:=I;omega,t,C,(by rw[hno];exact D),(h.cast rfl hno.symm),o,(late_close hS.names hR heL rfl hkn (by unfold lateE;simp only[hdu];exact⟨hq,hO⟩))⟩
   first|omega|(simp only[];omega)
  refine Wa (.dec (.move rfl) (congrArg not ((Bool.eq_false_iff.2 y)))) rfl (Wn 1 rfl (Wg (Any.rd (.nilCheck rfl) _) rfl (Wg (Any.rd (.field0 fa234_2 rfl) _) rfl (Wg (.loadB (v:= .int .i64 (p.by_)) na3 rfl hq rfl) rfl (Wn 3 rfl (Nx ?_))))))
  by_cases F:p.by_<=ht
  ·refine Cy rfl (dT F) (WC.region (Wn 3 rfl (W.cl go147 rfl rfl (clear_ok (nq:=p.held.length) p b t hq D hO (by omega) Q J Z R S) ?_)))
   rintro _ ar ⟨rfl,ab,ac,d⟩
   have L6:=z.sub d (fun i hi hlt=>Or.elim hi (fun hi=>(by subst hi;exact Or.inr ⟨_,heL,rfl⟩)) (fun hi=>(by subst hi;exact Or.inl rfl)))
   have j:=(h.chP d (fun q hqq hF=>Or.elim hF (fun hF=>(by subst hF;exact(h.rl (by have:=hgq;have:=n.size;omega)) hqq)) (fun hF=>(by subst hF;exact(h.rl (by have:=H.lt;omega)) hqq))))
   have f8:=(hO.chP d (fun q hqq hF=>Or.elim hF (fun hF=>(by subst hF;exact S hqq)) (fun hF=>(by subst hF;exact R hqq))))
   refine W.ef rfl rfl rfl (Ef.vcat underlying130 el125 underlying130 partV_row rfl j rfl f8.vec (by omega) (by unfold maxLen;omega) (by have:=Y;have:=d.size;omega) ?_)
   intro ad ae af ai f au
   have L9:ChP w af (fun k=>k=gh\/∃e∈L,k=e.g):=L6.ch f (fun i hi hlt=>absurd hlt (by have:=(j.row hi).1;have:=n.size;omega))
   refine Wn 1 rfl (W.nil (E.blkN (E.thenN (WC.region (Wa (.add rfl rfl (by omega)) rfl (Wn 1 rfl (W.nil ?_)))))))
   have aj:=(ab.ch f (h.rl (by have:=hgq;have:=n.size;omega)))
   have hdu:dueP ht p=true:=by unfold dueP;simp[u,y,F]
   have hno:outK ht L ns (k+1)=outK ht L ns k++p.held:=by rw[outK_next hS.names heL rfl hkn];simp only[hdu,if_true]
   have ak:=((t.chP d (fun hF=>Or.elim hF (fun hF=>Q hF) (fun hF=>J hF))).ch f (j.rl (by have:=N.lt;omega)))
   have al:=((C.chP d (fun hF=>Or.elim hF (fun hF=>m3 hF) (fun hF=>V hF))).ch f (j.rl (by have:=O.lt;omega)))
   have am:=(ac.ch f (j.rl (by have:=H.lt;omega)))
   have an:=((o.chP d (fun q hqq hF=>Or.elim hF (fun hF=>(by subst hF;exact(o.rl (by have:=hgq;have:=K.size;omega)) hqq)) (fun hF=>(by subst hF;exact(o.rl (by have:=hM.lt;omega)) hqq)))).ch f ((Apart.symm (fun q h1 h2=>by have:=(hon.row h1).2;have:=(j.row h2).1;omega))))
   have ao:=((hR.chP d (fun q hqq hF=>by obtain⟨ee,he,hh⟩:=hqq;rcases hF with hF|hF<;>subst hF<;>first|exact m8 ee he hh|exact m9 ee he hh)).ch f (fun q hqq ee he hh=>by have:=(j.row hqq).1;have:=aa ee he _ hh;have:=n.size;omega))
   refine E.again (k+1,m+p.held.length,ad,ae) (.of rfl) ?_ ?_
   ·exact⟨by omega,by omega,L9,by have:=I;have:=d.size;have:=f.size;omega,ak,al,(by rw[hno,<-delK_delK];exact am),(ai.cast rfl hno.symm),an,(late_close hS.names ao heL rfl hkn (by unfold lateE;simp only[hdu,if_true];exact⟨aj,OVec.nil _ _ _ _ _ _⟩))⟩
   first|omega|(simp only[];omega)
  refine Cn rfl (dF F) (WC.skip (E.blkN (E.thenN (WC.region (Wa (.add rfl rfl (by omega)) rfl (Wn 1 rfl (W.nil ?_)))))))
  have hdu:dueP ht p=false:=by unfold dueP;simp[u,y,F]
  have hno:outK ht L ns (k+1)=outK ht L ns k:=by rw[outK_next hS.names heL rfl hkn];simp[hdu]
  refine E.again (k+1,m,A,c) (.of rfl) ?_ ?_
  ·exact⟨by omega,by omega,z,by have:=I;omega,t,C,(by rw[hno];exact D),(h.cast rfl hno.symm),o,(late_close hS.names hR heL rfl hkn (by unfold lateE;simp only[hdu];exact⟨hq,hO⟩))⟩
  first|omega|(simp only[];omega)
 refine Cn rfl (dF u) (WC.exit (E.thenX (E.thenX (E.blkH (E.thenN (Sr (Wn 2 rfl (Nx (Rt (E.retG1 rfl rfl ?_))))))))))
 have ek:ns.length<=k:=(by omega);have eo:outK ht L ns k=ns.flatMap (lateOut ht L):=(by unfold outK;rw[List.take_of_length_le ek]);exact⟨ns,m,A,c,rfl,(by rw[laOf_names]at hpm;exact hpm),hpw,(by rw[<-eo];exact(h.mono n.size)),(by rw[<-eo];exact D),(by rw[<-lateL_all hpm ek];exact P),z⟩
end Go.Proofs.YtocheaahlpiajaaGreatDoor

namespace Go.Proofs.YtocheaahlpiajaaGreatDoor
open Tryz
open Go Go.Sx Go.Hsp Go.Num Go.Osp Go.Gsp
set_option maxRecDepth 20000
def trP (e:Ent):Int×Pay:=(e.name,e.pay)
def stOf (L:List Ent):PSt:=srtP (L.map trP)
structure PoolL (w:World)(gp ga gh:Nat)(L:List Ent)(lh:List (Nat×(Int×Int)×Bool))(ca ck:Nat):Prop where
  hp:Blk w gp 229 #[.map (some ga),.map (some gh)]
  hA:MapG w ikf ptf ga (laOf L) ca
  hM:MapG w ckf Value.bool gh lh ck
  hP:Pays w L
  hS:Sep gp ga gh L
  good:GoodP (stOf L)
  tru:∀z∈lh,z.2.2=true
  hk:∀k,hkOf lh k=hkS (stOf L) k
def PF (gp ga gh:Nat)(L:List Ent)(k:Nat):Prop:=k=gp\/k=ga\/k=gh\/∃e∈L,e.has k
def Pool (w:World)(base gp:Nat)(F:Nat->Prop)(s:PSt):Prop:=∃ga gh L lh ca ck,PoolL w gp ga gh L lh ca ck/\s=stOf L/\(∀k,F k↔PF gp ga gh L k)/\∀k,F k->base<=k
section
variable {w w':World}{gp ga gh:Nat}{L:List Ent}{lh:List (Nat×(Int×Int)×Bool)}{ca ck:Nat}{F:Nat->Prop}{s:PSt}{base:Nat}
theorem PoolL.chP {F':Nat->Prop}(h:PoolL w gp ga gh L lh ca ck)(hc:ChP w w' F')(hne:∀k,PF gp ga gh L k->¬F' k):PoolL w' gp ga gh L lh ca ck:=
  ⟨h.hp.chP hc (hne _ (.inl rfl)),h.hA.chP hc (hne _ (.inr (.inl rfl))),h.hM.chP hc (hne _ (.inr (.inr (.inl rfl)))),h.hP.chP hc (fun k hk=>hne k (.inr (.inr (.inr hk)))),h.hS,h.good,h.tru,h.hk⟩
theorem PoolL.lt (h:PoolL w gp ga gh L lh ca ck){k:Nat}(hk:PF gp ga gh L k):k<w.heap.size:=by
  rcases hk with rfl|rfl|rfl|⟨e,he,hh⟩
  · exact h.hp.lt
  · exact h.hA.lt
  · exact h.hM.lt
  · exact h.hP.lt he hh
theorem Pool.chP {F':Nat->Prop}(h:Pool w base gp F s)(hc:ChP w w' F')(hne:∀k,F k->¬F' k):Pool w' base gp F s:=by
  obtain⟨ga,gh,L,lh,ca,ck,c,d,b,e⟩:=h
  exact⟨ga,gh,L,lh,ca,ck,c.chP hc (fun k hk=>hne k ((b k).2 hk)),d,b,e⟩
theorem Pool.ch {r:Option Nat}(h:Pool w base gp F s)(hc:Ch w w' r)(hne:∀k,r=some k->¬F k):Pool w' base gp F s:=h.chP (hc.chP (F:=fun k=>r=some k) (fun i hi=>hi)) (fun k hk hr=>hne k hr hk)
theorem Pool.le (h:Pool w base gp F s)(hl:Le w w'):Pool w' base gp F s:=h.chP (hl.chP (fun _=>False)) (fun _ _ hf=>hf)
theorem Pool.lt (h:Pool w base gp F s){k:Nat}(hk:F k):k<w.heap.size:=by
  obtain⟨ga,gh,L,lh,ca,ck,b,d,c,e⟩:=h
  exact b.lt ((c k).1 hk)
theorem Pool.good (h:Pool w base gp F s):GoodP s:=by
  obtain⟨ga,gh,L,lh,ca,ck,b,rfl,c,d⟩:=h
  exact b.good
theorem Pool.old (h:Pool w base gp F s){k:Nat}(hk:F k):base<=k:=by
  obtain⟨ga,gh,L,lh,ca,ck,c,d,e,b⟩:=h
  exact b k hk
theorem Pool.size (h:Pool w base gp F s):base<=w.heap.size:=by
  obtain⟨ga,gh,L,lh,ca,ck,b,e,c,d⟩:=h
  have:=d gp ((c gp).2 (.inl rfl))
  have:=b.hp.lt
  omega
end
theorem st_len (L:List Ent):(stOf L).length=L.length:=by rw[stOf,(srtP_perm _).length_eq,List.length_map]
theorem st_names (L:List Ent):((stOf L).map (·.1)).Perm (L.map (·.name)):=by
  refine((srtP_perm _).map _).trans ?_
  rw[List.map_map]
  exact List.Perm.refl _
theorem st_mem {L:List Ent}{e:Ent}(he:e∈L):(e.name,e.pay)∈stOf L:=(srtP_perm _).mem_iff.2 (List.mem_map.2 ⟨e,he,rfl⟩)
theorem mem_st {L:List Ent}{n:Int}{p:Pay}(h:(n,p)∈stOf L):∃e∈L,e.name=n/\e.pay=p:=by
  obtain⟨e,he,b⟩:=List.mem_map.1 ((srtP_perm _).mem_iff.1 h)
  simp only[trP,Prod.mk.injEq]at b
  exact⟨e,he,b.1,b.2⟩
theorem get_none {L:List Ent}{n:Int}(h:getP n (stOf L)=none):getG n (laOf L)=none:=by
  rw[getG_none]
  intro x hx
  obtain⟨e,he,rfl⟩:=List.mem_map.1 hx
  exact getP_none.1 h _ (st_mem he)
theorem get_some {L:List Ent}{n:Int}{p:Pay}(hN:(L.map (·.name)).Nodup)(h:getP n (stOf L)=some p):∃e∈L,e.name=n/\e.pay=p/\getG n (laOf L)=some e.g:=by
  obtain⟨e,he,rfl,rfl⟩:=mem_st (getP_mem h)
  exact⟨e,he,rfl,rfl,getG_laOf hN he⟩
theorem over_pool {w:World}{base gp:Nat}{F:Nat->Prop}{s:PSt}(nm:Int)(h:Pool w base gp F s):Calls prog 61 #[.pointer (some ⟨gp,0,none⟩),.int .i64 nm] w fun r w'=>r= .returned (.tuple #[.bool (overP s nm).1,.bool (overP s nm).2])/\Le w w':=by
  obtain⟨ga,gh,L,lh,ca,ck,b,rfl,c,d⟩:=h
  unfold overP
  cases hg:getP nm (stOf L)with
  |none=>exact over_none nm w b.hp b.hA (get_none hg)
  |some p=>
    obtain⟨e,he,rfl,rfl,hgg⟩:=get_some b.hS.names hg
    exact over_some e.name e.pay w b.hp b.hA hgg (b.hP e he).1
end Go.Proofs.YtocheaahlpiajaaGreatDoor

namespace Go.Proofs.YtocheaahlpiajaaGreatDoor
open Tryz
open Go Go.Sx Go.Hsp Go.Num Go.Osp Go.Gsp
set_option maxRecDepth 20000
def updE (L:List Ent)(e':Ent):List Ent:=L.map fun x=>if x.name=e'.name then e' else x
section
variable {w w':World}{gp ga gh:Nat}{L:List Ent}{lh lh':List (Nat×(Int×Int)×Bool)}{ca ck ck':Nat}
theorem updE_la {L:List Ent}{e e':Ent}(hN:(L.map (·.name)).Nodup)(he:e∈L)(hn:e'.name=e.name)(hb:e'.born=e.born)(hg:e'.g=e.g):laOf (updE L e')=laOf L:=by
  unfold laOf updE
  rw[List.map_map]
  apply List.map_congr_left
  intro x hx
  simp only[Function.comp]
  by_cases h:x.name=e'.name
  · rw[if_pos h]
    have:=nodup_name hN hx he (h.trans hn)
    subst this
    rw[hn,hb,hg]
  · rw[if_neg h]
theorem updE_st {L:List Ent}{e e':Ent}(hn:e'.name=e.name):stOf (updE L e')=updP e.name e'.pay (stOf L):=by
  unfold stOf updE updP
  rw[<-srtP_map _ (updP_fst e.name e'.pay),List.map_map,List.map_map]
  congr 1
  apply List.map_congr_left
  intro x hx
  show trP (if x.name=e'.name then e' else x)=if(trP x).1=e.name then(e.name,e'.pay)else trP x
  by_cases h:x.name=e.name
  · rw[if_pos (h.trans hn.symm),if_pos (show(trP x).1=e.name from h)]
    simp[trP,hn]
  · rw[if_neg (fun hh=>h (hh.trans hn)),if_neg (show¬(trP x).1=e.name from h)]
theorem updE_mem {L:List Ent}{e' x:Ent}(h:x∈updE L e'):x=e'\/(x∈L/\x.name≠e'.name):=by
  obtain⟨y,hy,rfl⟩:=List.mem_map.1 h
  by_cases h:y.name=e'.name
  · rw[if_pos h];exact .inl rfl
  · rw[if_neg h];exact .inr ⟨hy,h⟩
theorem PoolL.step {e e':Ent}(h:PoolL w gp ga gh L lh ca ck)(he:e∈L)(hn:e'.name=e.name)(hb:e'.born=e.born)(hg:e'.g=e.g)(hc:ChP w w' (fun k=>k=e.g\/k=gh\/rowOf e.A e.c=some k))(hB:PayAt w' e')
    (hat:∀k,rowOf e'.A e'.c=some k->rowOf e.A e.c=some k\/w.heap.size<=k)(hM':MapG w' ckf Value.bool gh lh' ck')(tru':∀z∈lh',z.2.2=true)(good':GoodP (updP e.name e'.pay (stOf L)))(hk':∀k,hkOf lh' k=hkS (updP e.name e'.pay (stOf L)) k):
    PoolL w' gp ga gh (updE L e') lh' ca ck'/\stOf (updE L e')=updP e.name e'.pay (stOf L)/\(∀k,PF gp ga gh (updE L e') k->PF gp ga gh L k\/(w.heap.size<=k/\rowOf e'.A e'.c=some k)):=by
  have hS:=h.hS
  have hst:=updE_st (L:=L) hn
  have has':∀k,e'.has k->e.has k\/w.heap.size<=k:=by
    intro k hk
    rcases hk with hk|hk
    · exact .inl (.inl (hk.trans hg))
    · exact(hat k hk).imp_left .inr
  have hlt:∀x∈L,∀k,x.has k->k<w.heap.size:=fun x hx k hk=>h.hP.lt hx hk
  have ltp:=h.hp.lt
  have lta:=h.hA.lt
  have lth:=h.hM.lt
  refine⟨⟨?_,?_,hM',?_,⟨?_,?_,?_,?_,?_,?_,hS.pa,hS.ph,hS.ah⟩,by rw[hst];exact good',tru',by rw[hst];exact hk'⟩,hst,?_⟩
  · refine h.hp.chP hc ?_
    rintro(hh|hh|hh)
    · exact hS.p e he (.inl hh)
    · exact hS.ph hh
    · exact hS.p e he (.inr hh)
  · rw[updE_la hS.names he hn hb hg]
    refine h.hA.chP hc ?_
    rintro(hh|hh|hh)
    · exact hS.a e he (.inl hh)
    · exact hS.ah hh
    · exact hS.a e he (.inr hh)
  · intro x hx
    rcases updE_mem hx with rfl|⟨hx,hxn⟩
    · exact hB
    · refine(h.hP x hx).chP hc fun k hk hF=>?_
      have:=hS.pw x hx e he (fun hh=>hxn (hh.trans hn.symm)) k hk
      rcases hF with rfl|rfl|hF
      · exact this (.inl rfl)
      · exact hS.h x hx hk
      · exact this (.inr hF)
  · have:(updE L e').map (·.name)=L.map (·.name):=by
      unfold updE
      rw[List.map_map]
      apply List.map_congr_left
      intro x hx
      simp only[Function.comp]
      by_cases hh:x.name=e'.name
      · rw[if_pos hh];exact hh.symm
      · rw[if_neg hh]
    rw[this]
    exact hS.names
  · intro a ha b hb' hab k hka hkb
    rcases updE_mem ha with ea|⟨f,han⟩<;>rcases updE_mem hb' with eb|⟨i,hbn⟩
    · exact hab (by rw[ea,eb])
    · rw[ea]at hka
      rcases has' k hka with d|d
      · exact hS.pw e he b i (fun hh=>hbn (hh.symm.trans hn.symm)) k d hkb
      · have:=hlt b i k hkb;omega
    · rw[eb]at hkb
      rcases has' k hkb with d|d
      · exact hS.pw a f e he (fun hh=>han (hh.trans hn.symm)) k hka d
      · have:=hlt a f k hka;omega
    · exact hS.pw a f b i hab k hka hkb
  · intro x hx
    rcases updE_mem hx with rfl|⟨hx,hxn⟩
    · intro hh
      rw[hg]at hh
      rcases hat _ hh with d|d
      · exact hS.own e he d
      · have:=hlt e he e.g (.inl rfl);omega
    · exact hS.own x hx
  · intro x hx hh
    rcases updE_mem hx with rfl|⟨hx,hxn⟩
    · rcases has' _ hh with d|d
      · exact hS.p e he d
      · omega
    · exact hS.p x hx hh
  · intro x hx hh
    rcases updE_mem hx with rfl|⟨hx,hxn⟩
    · rcases has' _ hh with d|d
      · exact hS.a e he d
      · omega
    · exact hS.a x hx hh
  · intro x hx hh
    rcases updE_mem hx with rfl|⟨hx,hxn⟩
    · rcases has' _ hh with d|d
      · exact hS.h e he d
      · omega
    · exact hS.h x hx hh
  · intro k hk
    rcases hk with hk|hk|hk|⟨x,hx,hk⟩
    · exact .inl (.inl hk)
    · exact .inl (.inr (.inl hk))
    · exact .inl (.inr (.inr (.inl hk)))
    · rcases updE_mem hx with rfl|⟨hx,hxn⟩
      · rcases hk with d|d
        · exact .inl (.inr (.inr (.inr ⟨e,he,.inl (d.trans hg)⟩)))
        · rcases hat k d with j|j
          · exact .inl (.inr (.inr (.inr ⟨e,he,.inr j⟩)))
          · exact .inr ⟨j,d⟩
      · exact .inl (.inr (.inr (.inr ⟨x,hx,hk⟩)))
end
theorem updP_self {n:Int}{p:Pay}{s:PSt}(hn:(s.map (·.1)).Nodup)(h:getP n s=some p):updP n p s=s:=by
  obtain⟨a,b,c,d⟩:=getP_split hn h
  rw[d p]
  exact c.symm
theorem hk_self {n:Int}{p:Pay}{s:PSt}(hn:(s.map (·.1)).Nodup)(h:getP n s=some p)(k:Int×Int):k∈keysS s↔(k∈p.held.map keyP\/(∃y∈s,y.1≠n/\k∈y.2.held.map keyP)):=by
  have:=hk_upd (p':=p) hn h k
  rwa [updP_self hn h]at this
theorem hkOf_push {lh:List (Nat×(Int×Int)×Bool)}{ck:Nat}{key k:Int×Int}(hn:getG key lh=none):hkOf (lh++[(ck,key,true)]) k=true↔(k=key\/hkOf lh k=true):=by
  unfold hkOf
  rw[getG_push hn]
  by_cases h:k=key
  · simp[h]
  · simp[h]
theorem getG_delK {l:List Part}{m:List (Nat×(Int×Int)×Bool)}{k:Int×Int}:hkOf (delK l m) k=true↔(k∉l.map keyP/\hkOf m k=true):=by
  unfold hkOf delK
  rw[getG_eq,getG_eq]
  induction m with
  |nil=>simp
  |cons y m ih=>
    by_cases hk:y.2.1=k
    · by_cases hl:k∈l.map keyP
      · have:(l.any fun p=>decide (y.2.1=keyP p))=true:=by
          obtain⟨x,hx,e⟩:=List.mem_map.1 hl
          exact List.any_eq_true.2 ⟨x,hx,by simp[hk,e]⟩
        rw[List.filter_cons,if_neg (by simp[this]),ih]
        simp[hl]
      · have:(l.any fun p=>decide (y.2.1=keyP p))=false:=by
          rw[List.any_eq_false]
          intro x hx
          simp only[decide_eq_true_eq]
          intro e
          exact hl (List.mem_map.2 ⟨x,hx,by rw[<-e,hk]⟩)
        rw[List.filter_cons,if_pos (by simp[this])]
        simp only[List.find?_cons,hk,decide_true]
        simp only[hl,not_false_eq_true,true_and]
    · rw[List.find?_cons,List.filter_cons]
      simp only[hk,decide_false]
      split
      · rw[List.find?_cons]
        simp only[hk,decide_false]
        exact ih
      · exact ih
theorem mono_true {lh:List (Nat×(Int×Int)×Bool)}(h:∀z∈lh,z.2.2=true)(ck:Nat)(key:Int×Int):∀z∈lh++[(ck,key,true)],z.2.2=true:=by
  intro z hz
  rcases List.mem_append.1 hz with hz|hz
  · exact h z hz
  · simp at hz;rw[hz]
theorem delK_true {lh:List (Nat×(Int×Int)×Bool)}(h:∀z∈lh,z.2.2=true)(l:List Part):∀z∈delK l lh,z.2.2=true:=fun z hz=>h z (List.mem_filter.1 hz).1
def Grown (w:World)(F F':Nat->Prop):Prop:=∀k,F' k->F k\/w.heap.size<=k
theorem Pool.mk' {w w':World}{base gp ga gh:Nat}{F:Nat->Prop}{L L':List Ent}{lh':List (Nat×(Int×Int)×Bool)}{ca' ck':Nat}{s':PSt}(h:PoolL w' gp ga gh L' lh' ca' ck')(hs:s'=stOf L')(hF:∀k,F k↔PF gp ga gh L k)(hb:∀k,F k->base<=k)(hbw:base<=w.heap.size)(hg:∀k,PF gp ga gh L' k->PF gp ga gh L k\/w.heap.size<=k):
    ∃F',Pool w' base gp F' s'/\Grown w F F'/\∀k,F' k->PF gp ga gh L' k:=by
  refine⟨PF gp ga gh L',⟨ga,gh,L',lh',ca',ck',h,hs,fun _=>Iff.rfl,fun k hk=>?_⟩,fun k hk=>(hg k hk).imp_left (fun q=>(hF k).2 q),fun _ hk=>hk⟩
  rcases hg k hk with b|b
  · exact hb k ((hF k).2 b)
  · omega
theorem add_pool {w:World}{base gp:Nat}{F:Nat->Prop}{s:PSt}(nm:Int)(y:Part)(ht:Int)(h:Pool w base gp F s):Calls prog 59 #[.pointer (some ⟨gp,0,none⟩),.int .i64 nm,.agg (partV y).toArray,.int .i64 ht] w fun r w'=>
    ∃(F':Nat->Prop) (A:Option Addr) (c:Nat),r= .returned (.tuple #[.slice A (addT s nm y ht).2.1.length c,.int .i64 (addT s nm y ht).2.2])/\OVec w' w.heap.size 127 paidV 3 A (addT s nm y ht).2.1.length c (addT s nm y ht).2.1/\Pool w' base gp F' (addT s nm y ht).1/\Grown w F F'/\(∀g,rowOf A c=some g->¬F' g)/\ChP w w' F:=by
  have hbw:=h.size
  obtain⟨ga,gh,L,lh,ca,ck,d,rfl,j,v⟩:=h
  cases hg:getP nm (stOf L)with
  |none=>
    have e:addT (stOf L) nm y ht=(stOf L,[],5):=by unfold addT;rw[hg]
    rw[e]
    refine Calls.mono (add_none (lh:=lh) (ck:=ck) nm y ht w d.hp d.hA (get_none hg)) ?_
    rintro r w' ⟨rfl,hL⟩
    have h1':=d.chP (hL.chP (fun _=>False)) (fun _ _ hf=>hf)
    obtain⟨F',hP,hG,hFF⟩:=Pool.mk' (w:=w) h1' rfl j v hbw (fun k hk=> .inl hk)
    exact⟨F',none,0,rfl,OVec.nil _ _ _ _ _ _,hP,hG,by simp[rowOf],hL.chP F⟩
  |some p=>
    obtain⟨e,he,hen,hep,hgg⟩:=get_some d.hS.names hg
    have hS:=d.hS
    have hnd:=d.good.names
    have hpo:=d.good.pay _ (getP_mem hg)
    have hfew:p.held.length<=8:=hpo.few
    have hkeq:hkOf lh=hkS (stOf L):=funext d.hk
    obtain⟨b,n,g,A,c,f⟩:=e
    simp only at hen hep
    subst hen hep
    have hq:=d.hP _ he
    have hcF:∀k,(k=g\/k=gh\/rowOf A c=some k)->k<w.heap.size->F k:=by
      intro k hk _
      refine(j k).2 ?_
      rcases hk with rfl|rfl|hk
      · exact .inr (.inr (.inr ⟨_,he,.inl rfl⟩))
      · exact .inr (.inr (.inl rfl))
      · exact .inr (.inr (.inr ⟨_,he,.inr hk⟩))
    refine Calls.mono (add_some n f y ht w d.hp d.hA hgg hq.1 d.hM hq.2 (by omega) d.tru (fun hh=>hS.p _ he (.inl hh)) hS.ph (fun hh=>hS.h _ he (.inl hh.symm)) (fun hh=>hS.h _ he (.inr hh)) (fun hh=>hS.own _ he hh) (fun hh=>hS.p _ he (.inr hh)) (fun hh=>hS.a _ he (.inr hh)) (fun hh=>hS.a _ he (.inl hh)) hS.ah) ?_
    rw[hkeq]
    rintro r w' ⟨hc,hr⟩
    have hcw:=hc.mono hcF
    have hgood:=d.good.add n y ht
    rcases hr with⟨hm,rfl,l,x,m⟩|⟨hm,hlt,rfl,A',c',hat,l,x,m⟩|⟨hm,hlt,A',c',rfl,C,l,m⟩
    · have e:addT (stOf L) n y ht=(stOf L,[],(mayP f (hkS (stOf L)) y ht).2):=by unfold addT;rw[hg];simp only[hm,ne_eq,not_false_eq_true,if_true]
      rw[e]
      obtain⟨o,t,i⟩:=d.step (e':=⟨b,n,g,A,c,f⟩) he rfl rfl rfl hc ⟨l,x⟩ (fun k hk=> .inl hk) m d.tru (by rw[updP_self hnd hg];exact d.good) (by rw[updP_self hnd hg];exact d.hk)
      obtain⟨F',hP,hG,hFF⟩:=Pool.mk' (w:=w) o (by rw[t,updP_self hnd hg]) j v hbw (fun k hk=>(i k hk).imp_right And.left)
      exact⟨F',none,0,rfl,OVec.nil _ _ _ _ _ _,hP,hG,by simp[rowOf],hcw⟩
    · have e:addT (stOf L) n y ht=(updP n {f with held:=f.held++[y],sum:=(mayP f (hkS (stOf L)) y ht).1} (stOf L),[],0):=by unfold addT;rw[hg];simp only[hm,ne_eq,not_true_eq_false,if_false,hlt,if_true]
      rw[e]at hgood ⊢
      have hnone:getG (keyP y) lh=none:=getD_false d.tru (by have:=(mayP_ok hm).2.2.2.2.2.1;rw[<-d.hk]at this;exact this)
      have hl:(f.held++[y]).length=f.held.length+1:=by simp
      obtain⟨o,t,i⟩:=d.step (e':=⟨b,n,g,A',c',{f with held:=f.held++[y],sum:=(mayP f (hkS (stOf L)) y ht).1}⟩) he rfl rfl rfl hc ⟨by unfold Ent.arr;simp only[hl];exact l,by simp only[hl];exact x⟩ hat m (mono_true d.tru _ _) hgood (by
        intro k
        rw[Bool.eq_iff_iff,hkOf_push hnone,hkS_iff,hk_upd hnd hg,d.hk,hkS_iff,hk_self hnd hg]
        simp only[List.map_append,List.mem_append,List.map_cons,List.map_nil,List.mem_singleton]
        constructor
        · rintro(h|h|h)
          · exact .inl (.inr h)
          · exact .inl (.inl h)
          · exact .inr h
        · rintro((h|h)|h)
          · exact .inr (.inl h)
          · exact .inl h
          · exact .inr (.inr h))
      obtain⟨F',hP,hG,hFF⟩:=Pool.mk' (w:=w) o t.symm j v hbw (fun k hk=>(i k hk).imp_right And.left)
      exact⟨F',none,0,rfl,OVec.nil _ _ _ _ _ _,hP,hG,by simp[rowOf],hcw⟩
    · have e:addT (stOf L) n y ht=(updP n {f with held:=[],sum:=(mayP f (hkS (stOf L)) y ht).1,ovr:=true,paid:=true} (stOf L),(f.held++[y]).map (paidOf f.sec),0):=by unfold addT;rw[hg];simp only[hm,ne_eq,not_true_eq_false,if_false,hlt]
      rw[e]at hgood ⊢
      have hkx:keyP y∉keysS (stOf L):=fun hh=>by have:=(mayP_ok hm).2.2.2.2.2.1;rw[(hkS_iff _ _).2 hh]at this;cases this
      have hnone:getG (keyP y) lh=none:=getD_false d.tru (by have:=(mayP_ok hm).2.2.2.2.2.1;rw[<-d.hk]at this;exact this)
      have hl:((f.held++[y]).map (paidOf f.sec)).length=f.held.length+1:=by simp
      obtain⟨o,t,i⟩:=d.step (e':=⟨b,n,g,none,0,{f with held:=[],sum:=(mayP f (hkS (stOf L)) y ht).1,ovr:=true,paid:=true}⟩) he rfl rfl rfl hc ⟨l,OVec.nil _ _ _ _ _ _⟩ (by simp[rowOf]) m (delK_true (mono_true d.tru _ _) _) hgood (by
        intro k
        rw[Bool.eq_iff_iff,getG_delK,hkOf_push hnone,hkS_iff,hk_upd hnd hg,d.hk,hkS_iff,hk_self hnd hg]
        simp only[List.map_append,List.mem_append,List.map_cons,List.map_nil,List.mem_singleton,List.not_mem_nil,false_or,not_or]
        constructor
        · rintro⟨⟨u,D⟩,h|h|h⟩
          · exact absurd h D
          · exact absurd h u
          · exact h
        · rintro⟨z,hz,hzn,hzk⟩
          refine⟨⟨keys_part hnd d.good.keys hg hz hzn hzk,fun hh=>hkx ?_⟩,.inr (.inr ⟨z,hz,hzn,hzk⟩)⟩
          rw[<-hh]
          exact(hk_self hnd hg k).2 (.inr ⟨z,hz,hzn,hzk⟩))
      obtain⟨F',hP,hG,hFF⟩:=Pool.mk' (w:=w) o t.symm j v hbw (fun k hk=>(i k hk).imp_right And.left)
      simp only[hl]
      refine⟨F',A',c',rfl,C,hP,hG,fun g H hF'=>?_,hcw⟩
      have hge:=(C.row H).1
      rcases i g (hFF g hF')with u|u
      · have:=d.lt u;omega
      · simp[rowOf]at u
end Go.Proofs.YtocheaahlpiajaaGreatDoor

namespace Go.Proofs.YtocheaahlpiajaaGreatDoor
open Tryz
open Go Go.Sx Go.Hsp Go.Num Go.Osp Go.Gsp
set_option maxRecDepth 20000
theorem new_ok (w:World):Calls prog 57 #[] w fun r w'=>∃gp ga gh,r= .returned (.pointer (some ⟨gp,0,none⟩))/\Blk w' gp 229 #[.map (some ga),.map (some gh)]/\MapG w' ikf ptf ga [] 0/\MapG w' ckf Value.bool gh [] 0/\gp≠ga/\gp≠gh/\ga≠gh/\w.heap.size<=gp/\w.heap.size<=ga/\w.heap.size<=gh/\Le w w':=by
 refine enter func57 rfl rfl ?_
 have i:=Le.refl w
 refine Sr (Wn 1 rfl (Nx (Sr (W.ef rfl rfl rfl (Ef.makeMapG ikf ptf fun b v m d n=>?_)))))
 have j:=i.trans n
 refine W.ef rfl rfl rfl (Ef.makeMapG ckf Value.bool fun c x o k e=>?_)
 have l:=j.trans e
 refine Wa (.buildP [.map (some b),.map (some c)] pl229 z229 rfl rfl) rfl (W.ef rfl rfl rfl (Ef.boxA rfl fun f s t (u:Blk s f 229 #[.map (some b),.map (some c)]) h=>(Wn 1 rfl (Nx (Rt (E.retG1 rfl rfl ?_))))))
 exact⟨_,_,_,rfl,u,(d.le (e.trans h)),(k.le h),(show f≠b from by have:=d.lt;have:=e.size;omega),(show f≠c from by have:=k.lt;omega),(show b≠c from by have:=d.lt;omega),(by have:=t;have:=l.size;omega),(by have:=m;have:=i.size;omega),(by have:=o;have:=j.size;omega),(l.trans h)⟩
theorem new_pool (w:World):Calls prog 57 #[] w fun r w'=>∃(gp:Nat) (F:Nat->Prop),r= .returned (.pointer (some ⟨gp,0,none⟩))/\Pool w' w.heap.size gp F []/\Le w w':=by
  refine Calls.mono (new_ok w) ?_
  rintro r w' ⟨gp,ga,gh,rfl,b,c,d,f,i,j,l,m,n,hL⟩
  refine⟨gp,PF gp ga gh [],rfl,⟨ga,gh,[],[],0,0,⟨b,c,d,fun _ h=>(by cases h),⟨by simp,by simp,by simp,by simp,by simp,by simp,f,i,j⟩,GoodP.nil,by simp,fun k=>rfl⟩,rfl,fun _=>Iff.rfl,?_⟩,hL⟩
  rintro k (rfl|rfl|rfl|⟨e,he,_⟩)
  · exact l
  · exact m
  · exact n
  · cases he
theorem laOf_snoc (L:List Ent)(e:Ent):laOf (L++[e])=laOf L++[(e.born,e.name,e.g)]:=by simp[laOf]
theorem want_pool {w:World}{base gp:Nat}{F:Nat->Prop}{s:PSt}(nm:Int)(sc:Nat)(to by_ le:Int)(hnm:nm<=9223372036854775807)(h:Pool w base gp F s):Calls prog 58 #[.pointer (some ⟨gp,0,none⟩),.int .i64 nm,.int .u64 ((sc:Nat):Int),.int .i64 to,.int .i64 by_,.int .i64 le] w fun r w'=>
    ∃(F':Nat->Prop),r= .returned (.int .i64 (wantS s nm sc to by_ le).2)/\Pool w' base gp F' (wantS s nm sc to by_ le).1/\Grown w F F'/\ChP w w' F:=by
  have hbw:=h.size
  have hgood:=h.good.want nm sc to by_ le hnm
  obtain⟨ga,gh,L,lh,ca,ck,c,rfl,f,i⟩:=h
  cases hg:getP nm (stOf L)with
  |some p=>
    obtain⟨e,he,hen,hep,hgg⟩:=get_some c.hS.names hg
    refine Calls.mono (want_some nm sc to by_ le w c.hp c.hA hgg) ?_
    rintro r w' ⟨rfl,hL⟩
    have d:wantS (stOf L) nm sc to by_ le=(stOf L,if wantOk nm sc to by_ le then 4 else 1):=by
      unfold wantS
      split
      · rw[hg];rfl
      · rfl
    rw[d]
    have h1':=c.chP (hL.chP (fun _=>False)) (fun _ _ hf=>hf)
    obtain⟨F',hP,hG,_⟩:=Pool.mk' (w:=w) h1' rfl f i hbw (fun k hk=> .inl hk)
    exact⟨F',rfl,hP,hG,hL.chP F⟩
  |none=>
    have hS:=c.hS
    refine Calls.mono (want_none nm sc to by_ le w c.hp c.hA (get_none hg) hS.pa) ?_
    rintro r w' ⟨hc,hr⟩
    have hcF:ChP w w' F:=hc.mono (fun k hk _=>(f k).2 (by subst hk;exact .inr (.inl rfl)))
    have j:=c.hp.chP hc hS.pa
    have l:=c.hM.chP hc (fun hh=>hS.ah hh.symm)
    have m:Pays w' L:=c.hP.chP hc (fun k hk hh=>by subst hh;obtain⟨e,he,hh⟩:=hk;exact hS.a e he hh)
    rcases hr with⟨hw,rfl,hA⟩|⟨hw,rfl,g,hgs,hB,hA⟩
    · have d:wantS (stOf L) nm sc to by_ le=(stOf L,1):=by unfold wantS;rw[if_neg hw]
      rw[d]
      obtain⟨F',hP,hG,_⟩:=Pool.mk' (w:=w) (L':=L) ⟨j,hA,l,m,hS,c.good,c.tru,c.hk⟩ rfl f i hbw (fun k hk=> .inl hk)
      exact⟨F',rfl,hP,hG,hcF⟩
    · have d:wantS (stOf L) nm sc to by_ le=(insP (nm,newP sc to by_ le) (stOf L),0):=by unfold wantS;rw[if_pos hw,hg];rfl
      rw[d]at hgood ⊢
      have est:stOf (L++[⟨ca,nm,g,none,0,newP sc to by_ le⟩])=insP (nm,newP sc to by_ le) (stOf L):=by unfold stOf;rw[List.map_append];exact srtP_snoc _ _
      have hlt:∀x∈L,∀k,x.has k->k<w.heap.size:=fun x hx k hk=>c.hP.lt hx hk
      have hnew:∀k,(⟨ca,nm,g,none,0,newP sc to by_ le⟩:Ent).has k->k=g:=by
        rintro k (hk|hk)
        · exact hk
        · simp[rowOf]at hk
      have hmem:∀x∈L++[(⟨ca,nm,g,none,0,newP sc to by_ le⟩:Ent)],x∈L\/x=⟨ca,nm,g,none,0,newP sc to by_ le⟩:=fun x hx=>by simpa using hx
      have ltp:=c.hp.lt
      have lta:=c.hA.lt
      have lth:=c.hM.lt
      have hL':PoolL w' gp ga gh (L++[⟨ca,nm,g,none,0,newP sc to by_ le⟩]) lh (ca+1) ck:=by
        refine⟨j,by rw[laOf_snoc];exact hA,l,?_,⟨?_,?_,?_,?_,?_,?_,hS.pa,hS.ph,hS.ah⟩,by rw[est];exact hgood,c.tru,?_⟩
        · intro x hx
          rcases hmem x hx with hx|rfl
          · exact m x hx
          · exact⟨hB,OVec.nil _ _ _ _ _ _⟩
        · rw[List.map_append,List.nodup_append]
          refine⟨hS.names,by simp,?_⟩
          intro a ha b hb
          simp at hb
          subst hb
          obtain⟨x,hx,rfl⟩:=List.mem_map.1 ha
          exact getP_none.1 hg _ (st_mem hx)
        · intro a ha b hb hab k hka hkb
          rcases hmem a ha with ha|rfl<;>rcases hmem b hb with hb|rfl
          · exact hS.pw a ha b hb hab k hka hkb
          · have:=hlt a ha k hka;have:=hnew k hkb;omega
          · have:=hlt b hb k hkb;have:=hnew k hka;omega
          · exact hab rfl
        · intro x hx
          rcases hmem x hx with hx|rfl
          · exact hS.own x hx
          · simp[rowOf]
        · intro x hx hh
          rcases hmem x hx with hx|rfl
          · exact hS.p x hx hh
          · have:=hnew _ hh;omega
        · intro x hx hh
          rcases hmem x hx with hx|rfl
          · exact hS.a x hx hh
          · have:=hnew _ hh;omega
        · intro x hx hh
          rcases hmem x hx with hx|rfl
          · exact hS.h x hx hh
          · have:=hnew _ hh;omega
        · intro k
          rw[est,c.hk,Bool.eq_iff_iff,hkS_iff,hkS_iff]
          unfold keysS
          rw[((insP_perm (nm,newP sc to by_ le) (stOf L)).flatMap_right _).mem_iff]
          simp[List.flatMap_cons,newP]
      obtain⟨F',hP,hG,_⟩:=Pool.mk' (w:=w) hL' est.symm f i hbw (by
        rintro k (hk|hk|hk|⟨x,hx,hk⟩)
        · exact .inl (.inl hk)
        · exact .inl (.inr (.inl hk))
        · exact .inl (.inr (.inr (.inl hk)))
        · rcases hmem x hx with hx|rfl
          · exact .inl (.inr (.inr (.inr ⟨x,hx,hk⟩)))
          · have:=hnew k hk;exact .inr (by omega))
      exact⟨F',rfl,hP,hG,hcF⟩
theorem flat_late (ht:Int)(L:List Ent)(hN:(L.map (·.name)).Nodup)(s:PSt)(hs:∀y∈s,y∈stOf L):(s.map (·.1)).flatMap (lateOut ht L)=s.flatMap fun y=>if dueP ht y.2 then y.2.held else[]:=by
  rw[List.flatMap_map]
  have:∀y∈s,lateOut ht L y.1=if dueP ht y.2 then y.2.held else[]:=by
    intro y hy
    obtain⟨e,he,b,c⟩:=mem_st (hs y hy)
    have:=outK_next (ns:=[e.name]) (ht:=ht) (k:=0) hN he rfl (by simp)
    simp only[outK,List.take_zero,List.flatMap_nil,List.nil_append,List.take_succ_cons,List.flatMap_cons,List.append_nil]at this
    rw[<-b,this,c]
  induction s with
  |nil=>rfl
  |cons y s ih=>
    simp only[List.flatMap_cons]
    rw[this y (List.mem_cons_self),ih (fun z hz=>hs z (List.mem_cons_of_mem _ hz)) (fun z hz=>this z (List.mem_cons_of_mem _ hz))]
theorem lateE_pay (ht:Int)(e:Ent):(lateE ht e).pay=lateP ht e.pay:=by
  unfold lateE lateP
  by_cases hd:dueP ht e.pay=true
  · rw[if_pos hd,if_pos hd]
  · rw[if_neg hd,if_neg hd]
theorem late_st (ht:Int)(L:List Ent):stOf (L.map (lateE ht))=(lateS (stOf L) ht).1:=by
  unfold stOf lateS
  simp only
  rw[<-srtP_map (fun y=>(y.1,lateP ht y.2)) (fun _=>rfl),List.map_map,List.map_map]
  congr 1
  apply List.map_congr_left
  intro e he
  show((lateE ht e).name,(lateE ht e).pay)=(e.name,lateP ht e.pay)
  rw[lateE_name,lateE_pay]
theorem late_pool {w:World}{base gp:Nat}{F:Nat->Prop}{s:PSt}(ht:Int)(h:Pool w base gp F s)(hl:s.length<=1000):Calls prog 62 #[.pointer (some ⟨gp,0,none⟩),.int .i64 ht] w fun r w'=>
    ∃(F':Nat->Prop) (A:Option Addr) (c:Nat),r= .returned (.slice A (lateS s ht).2.length c)/\OVec w' w.heap.size 125 partV 6 A (lateS s ht).2.length c (lateS s ht).2/\Pool w' base gp F' (lateS s ht).1/\Grown w F F'/\(∀g,rowOf A c=some g->¬F' g)/\ChP w w' F:=by
  have hbw:=h.size
  have hgood:=h.good.late ht
  obtain⟨ga,gh,L,lh,ca,ck,d,rfl,j,l⟩:=h
  have hS:=d.hS
  have hnd:=d.good.names
  refine Calls.mono (late_ok ht w d.hp d.hA d.hM d.hP hS (fun e he=>by have:=d.good.nat _ (st_mem he);unfold inI;simp only at this;omega) (by rw[st_len]at hl;exact hl) (fun e he=>by have:=(d.good.pay _ (st_mem he)).few;simp only at this;omega)) ?_
  rintro r w' ⟨ns,m,A,c,rfl,hpm,hpw,ho,hM,hP,hc⟩
  have hns:ns=(stOf L).map (·.1):=sorted_one (hpm.trans (st_names L).symm) hpw (List.pairwise_map.2 d.good.srt)
  have hout:ns.flatMap (lateOut ht L)=(lateS (stOf L) ht).2:=by rw[hns];exact flat_late ht L hS.names (stOf L) (fun _ h=>h)
  rw[hout]at ho hM
  have hm:m=(lateS (stOf L) ht).2.length:=ho.1.symm
  subst hm
  have hcF:ChP w w' F:=hc.mono (fun k hk _=>(j k).2 (by
    rcases hk with rfl|⟨e,he,rfl⟩
    · exact .inr (.inr (.inl rfl))
    · exact .inr (.inr (.inr ⟨e,he,.inl rfl⟩))))
  have hmap:∀x∈L.map (lateE ht),∃e∈L,x.name=e.name/\x.g=e.g/\∀k,x.has k->e.has k:=by
    intro x hx
    obtain⟨e,he,rfl⟩:=List.mem_map.1 hx
    exact⟨e,he,lateE_name ht e,by unfold lateE;split<;>rfl,fun k=>lateE_has⟩
  have hla:laOf (L.map (lateE ht))=laOf L:=by
    unfold laOf
    rw[List.map_map]
    apply List.map_congr_left
    intro e he
    simp only[Function.comp,lateE]
    split<;>rfl
  have hnm:(L.map (lateE ht)).map (·.name)=L.map (·.name):=by
    rw[List.map_map]
    apply List.map_congr_left
    intro e he
    exact lateE_name ht e
  have hL':PoolL w' gp ga gh (L.map (lateE ht)) (delK (lateS (stOf L) ht).2 lh) ca ck:=by
    refine⟨?_,?_,hM,hP,⟨by rw[hnm];exact hS.names,?_,?_,?_,?_,?_,hS.pa,hS.ph,hS.ah⟩,by rw[late_st];exact hgood,delK_true d.tru _,?_⟩
    · refine d.hp.chP hc ?_
      rintro(hh|⟨e,he,hh⟩)
      · exact hS.ph hh
      · exact hS.p e he (.inl hh)
    · rw[hla]
      refine d.hA.chP hc ?_
      rintro(hh|⟨e,he,hh⟩)
      · exact hS.ah hh
      · exact hS.a e he (.inl hh)
    · intro a ha b hb hab k hka hkb
      obtain⟨e,he,o,_,i⟩:=hmap a ha
      obtain⟨f,hf,t,_,u⟩:=hmap b hb
      exact hS.pw e he f hf (fun hh=>hab (by rw[o,t,hh])) k (i k hka) (u k hkb)
    · intro x hx
      obtain⟨e,he,rfl⟩:=List.mem_map.1 hx
      unfold lateE
      split
      · simp[rowOf]
      · exact hS.own e he
    · intro x hx hh
      obtain⟨e,he,_,_,i⟩:=hmap x hx
      exact hS.p e he (i _ hh)
    · intro x hx hh
      obtain⟨e,he,_,_,i⟩:=hmap x hx
      exact hS.a e he (i _ hh)
    · intro x hx hh
      obtain⟨e,he,_,_,i⟩:=hmap x hx
      exact hS.h e he (i _ hh)
    · intro k
      rw[late_st,Bool.eq_iff_iff,getG_delK,d.hk,hkS_iff,hkS_iff]
      unfold lateS keysS
      simp only
      rw[List.flatMap_map,List.mem_flatMap,List.mem_flatMap]
      constructor
      · rintro⟨v,y,hy,hk⟩
        refine⟨y,hy,?_⟩
        simp only
        unfold lateP
        split
        · rename_i hd
          refine absurd ?_ v
          obtain⟨x,hx,e⟩:=List.mem_map.1 hk
          exact List.mem_map.2 ⟨x,List.mem_flatMap.2 ⟨y,hy,by rw[if_pos hd];exact hx⟩,e⟩
        · exact hk
      · rintro⟨y,hy,hk⟩
        simp only at hk
        unfold lateP at hk
        split at hk
        · simp at hk
        · rename_i hd
          refine⟨fun hh=>?_,y,hy,hk⟩
          obtain⟨x,hx,e⟩:=List.mem_map.1 hh
          obtain⟨z,hz,hxz⟩:=List.mem_flatMap.1 hx
          split at hxz
          · rename_i hdz
            by_cases hyz:y.1=z.1
            · have:y.2=z.2:=nodup_fst hnd (n:=y.1) (by exact hy) (by rw[hyz];exact hz)
              rw[this]at hd
              exact hd hdz
            · have hgz:=getP_of hnd (n:=z.1) (p:=z.2) hz
              exact keys_part hnd d.good.keys hgz hy hyz hk (List.mem_map.2 ⟨x,hxz,e⟩)
          · simp at hxz
  have hold:∀k,PF gp ga gh (L.map (lateE ht)) k->PF gp ga gh L k:=by
    rintro k (hk|hk|hk|⟨x,hx,hk⟩)
    · exact .inl hk
    · exact .inr (.inl hk)
    · exact .inr (.inr (.inl hk))
    · obtain⟨e,he,_,_,i⟩:=hmap x hx
      exact .inr (.inr (.inr ⟨e,he,i _ hk⟩))
  obtain⟨F',C,hG,hFF⟩:=Pool.mk' (w:=w) hL' (late_st ht L).symm j l hbw (fun k hk=> .inl (hold k hk))
  refine⟨F',A,c,rfl,ho,C,hG,fun g hg hF'=>?_,hcF⟩
  have:=(ho.row hg).1
  have:=d.lt (hold g (hFF g hF'))
  omega
end Go.Proofs.YtocheaahlpiajaaGreatDoor

namespace Go.Proofs.YtocheaahlpiajaaGreatDoor
open Tryz
open Go Go.Sx Go.Osp Go.Hsp Go.Hsp Go.Num Go.Osp Go.Gsp Go.Nsp Go.Msp Go.Rtp
set_option maxRecDepth 20000
theorem sumI_sum:∀l:List Int,sumI l=l.sum
  |[]=>rfl
  |x::l=>by rw[List.sum_cons,<-sumI_sum l];rfl
theorem held_Q {g:List Gsp.Edge}{fr to a x n:Int}{b:List Prt×Fr×Int}(hA:AllOk g fr to a x n b)(h1:1<=b.1.length){own:Nat}(ho:own≠0/\own<q){ts:List Nat}(htl:ts.length=b.1.length)(htq:∀t∈ts,t<q):QH own (b.1.map (·.amt)) ts a x b.1.length:=by
  have hc:∀j,j<b.1.length->Costs (b.1.getD j noPrt).way (b.1.getD j noPrt).amt x (b.1.getD j noPrt).sent (b.1.getD j noPrt).till:=fun j hj=>by
    have cs:=costs_of (w:=(b.1.getD j noPrt).way) (a:=(b.1.getD j noPrt).amt) (x:=x) (by rw[(hA.parts j hj).cost])
    rw[(hA.parts j hj).cost]at cs
    exact cs
  refine⟨h1,hA.len.2,by simp,fun j hj=>?_,by rw[<-sumI_sum];exact hA.sum,hA.ab,htl,fun j hj=>htq _ (getD_mem (z:=0) (by omega)),?_,ho⟩
  · have:=(hc j hj).amt.1
    rw[show(b.1.map (·.amt)).getD j 0=(b.1.getD j noPrt).amt by simp[List.getD,hj]]
    exact this
  · have:=(hc 0 h1).exp
    omega
theorem amt_at {ps:List Prt}{i:Nat}(h:i<ps.length):(ps.map (·.amt)).getD i 0=(ps.getD i noPrt).amt:=by simp[List.getD,h]
theorem told_next {po:List Paid}{k:Nat}(h:k<po.length):(po.take (k+1)).map (·.sec)=(po.take k).map (·.sec)++[(po.getD k noPaid).sec]:=by
  rw[List.take_add_one,List.map_append]
  simp[List.getD,h]
set_option maxHeartbeats 4000000 in
theorem SplitHeld_ok (fr to a x:Int) (mq:Nat) (s:Nat) {seed:List Byte} (hse:seed.length=32) {A A2:Option Addr} {n c n2 c2:Nat} {g:List Gsp.Edge} {l:List Kn} (w:World) (hT:Tab w) (hV:Vec w edgeV 9 A n g) (hL:Vec w knV 3 A2 n2 l) (hgl:∀q∈l,I64n q.d) (hnc:n<=c) (hn:n<=9223372036854775807) (hn2:n2<=9223372036854775807) (ha:I64n a) (hmq:mq<256):Calls prog 11 #[.slice A n c,.slice A2 n2 c2,.int .i64 (fr),.int .i64 (to),.int .i64 (a),.int .i64 (x),.int .u8 (((mq:Nat):Int)),.int .u64 (((s:Nat):Int)),.agg (seed.map u8v).toArray] w fun r w'=>r= .returned (.bool true)/\Le w w':=by
 have hl:=hV.1;have cd:=hL.1
 have hgm:GoodM (mindG g l):=mindG_good g l _ none_good
 unfold I64n at ha
 refine enter func11 rfl rfl (Sr (W.ef rfl rfl rfl (Ef.boxA rfl fun bu aL ce (aM:Blk aL bu 30 (seed.map u8v).toArray) aO=>?_)))
 have L1:=(Le.refl w).trans aO
 refine Wn 1 rfl (Nx (Sr (W.cl go13 rfl rfl (small39_ok aL (hT.le L1)) ?_)))
 rintro _ bv ⟨rfl,an⟩
 refine Wn 1 rfl (Nx (Sq (Sr (Wn 2 rfl (W.cl go25 rfl rfl (few_ok bv) ?_)))))
 rintro _ bw ⟨rfl,ao⟩
 have L3:=(L1.trans an).trans ao
 refine Wn 1 rfl ?_
 by_cases aP:(decide (n<=8)&&decide (n2<=20))=true
 ·refine Wa (.dec (.move rfl) (congrArg not (aP))) rfl (Wn 1 rfl (Wg (Any.rd (.remN s 2305843009213688669 (s%2305843009213688669) rfl rfl rfl rfl (by decide) (rfl)) _) rfl (Wn 2 rfl (Nx ?_))))
  by_cases c0:((s%2305843009213688669:Nat):Int)=0
  ·refine Cy rfl (dT c0) (Sr (Wn 2 rfl (Nx (Rt (E.thenR (E.retG1 rfl rfl ?_))))))
   exact⟨rfl,L3⟩
  refine Cn rfl (dF c0) ?_
  obtain⟨cf,cg⟩:n<=8/\n2<=20:=by have q:(decide (n<=8)&&decide (n2<=20))=true:=(by assumption);simpa using q
  refine Sn (Sr (Wn 2 rfl (W.cl go26 rfl rfl (mind_ok bw (hV.le L3) (hL.le L3) hgl (by omega) (by omega)) ?_)))
  rintro _ P ⟨ci,cj,rfl,bx,ap⟩
  have L4:=L3.trans ap
  refine Wn 1 rfl (Nx (Sq (Sr (Wn 1 rfl (Wa (.dec (.isNilP (by kernel_rfl) rfl) rfl) rfl (Nx (WC.condF rfl (Sn (Sr (Wn 7 rfl (Wa (.rem8 rfl rfl (by omega)) rfl (Wr (.idI (isS underlying5) underlying3 rfl (IntWalk.i64_in _ (by omega))) rfl (Wa (.add rfl rfl (by omega)) rfl ?_)))))))))))))
  obtain⟨b,heb⟩:∃z,z=(splitG g (mindG g l) fr to a x (1+(((mq:Nat):Int)%3))):=⟨_,rfl⟩
  have hlb:=splitG_len (g:=g) (m:=(mindG g l)) (fr:=fr) (to:=to) (a:=a) (x:=x) (n:=(1+(((mq:Nat):Int)%3))) hgm
  rw[<-heb]at hlb;unfold LenF at hlb
  refine W.cl go30 rfl rfl ((by have k:=spbest_ok (c:=c) fr to a x (1+(((mq:Nat):Int)%3)) P bx (hV.le L4) (by omega) (by omega);rw[<-heb]at k;exact k)) ?_
  rintro _ ck ⟨ae,V,I,bz,bA,bB,bC,rfl,aq,aQ,cm,co,cp,af⟩
  have L5:=L4.trans af
  have cq:=aQ.1
  refine Wn 2 rfl (Wa (.extract (v:= .agg #[.slice bz ((digs b.2.1.n).length) bA,.slice bB ((digs b.2.1.d).length) bC]) rfl rfl) rfl (Wn 1 rfl (W.ef rfl rfl rfl (Ef.allocA z61 fun bD bE bF (aR:Blk bE bD 61 #[.slice none 0 0,.slice none 0 0]) X=>(Wn 1 rfl (W.sA sz61 rfl rfl aR ?_))))))
  intro al cr Y
  have L7:=(L5.trans X).tb Y L5 bF
  refine Wn 1 rfl (Nx (Sq (Sr (Wn 2 rfl (Nx ?_)))))
  by_cases c2:b.2.2≠0
  ·refine Cy rfl (dT c2) (Sr (Wn 2 rfl (Nx (Rt (E.thenR (E.retG1 rfl rfl ?_))))))
   exact⟨rfl,L7⟩
  refine Cn rfl (dF c2) ?_
  have hA:=spl_all (g:=g) (fr:=fr) (to:=to) (a:=a) (x:=x) hgm (n:=(1+(((mq:Nat):Int)%3)))
  have ar:=spl_one (g:=g) (fr:=fr) (to:=to) (a:=a) (x:=x) hgm (n:=(1+(((mq:Nat):Int)%3)))
  simp only[<-heb]at hA ar
  have hA:=hA (by omega)
  have ar:=ar (by omega)
  have hAl:=hA.len
  refine Sn (Sr (Wn 1 rfl (Wa (.remN s 2305843009213688669 (s%2305843009213688669) rfl rfl rfl rfl (by decide) (rfl)) rfl (Wn 1 rfl (Nx (Sr (Wn 2 rfl (Wr (.len underlying31 rfl) rfl ?_))))))))
  obtain⟨ts,hets⟩:∃z,z=(partsL (s%2305843009213688669) ((b.1.length:Nat):Int)):=⟨_,rfl⟩
  refine W.cl go15 rfl rfl ((by have k:=parts_ok (s%2305843009213688669) ((b.1.length:Nat):Int) al;rw[<-hets]at k;exact k)) ?_
  rintro _ Q ⟨ah,ai,rfl,am,T⟩
  have cs:=partsL_le (s%2305843009213688669) ((b.1.length:Nat):Int);have ct:=partsL_lt (s%2305843009213688669) ((b.1.length:Nat):Int)
  refine Wn 1 rfl (Nx (Sr (Wn 2 rfl ?_)))
  have f9:=(((aM.le (an.trans (ao.trans (ap.trans (af.trans X))))).cn Y (by have:=aM.lt;have:=an.size;have:=ao.size;have:=ap.size;have:=af.size;omega)).le T)
  refine Wr (.loadAll ag30 (by simp[hse]) rfl f9) rfl ?_
  have au:=(((aq.le X).cb Y (aq.rn (by omega))).le T)
  obtain⟨pls,hepls⟩:∃z,z=(plansL (s%2305843009213688669) seed (I.map (·.wN))):=⟨_,rfl⟩
  refine W.cl go16 rfl rfl ((by have k:=plans_ok (c:=V) (s%2305843009213688669) hse Q au.vec (by omega);rw[<-hepls]at k;exact k)) ?_
  rintro _ aC ⟨aj,ak,f,rfl,R,av,H⟩
  have aw:=(L7.trans T).trans H
  have cu:=av.1
  refine Wn 1 rfl (Nx (Sr ?_))
  have ax:=(((aQ.le X).chB Y aR (by decide) (by decide)).le (T.trans H))
  have hpas:=ax
  have hrs:=hpas.1
  have hnl:(I.map (·.wN)).length=b.1.length:=by rw[List.length_map];exact hrs
  have hns:∀i,i<(I.map (·.wN)).length->1<=(I.map (·.wN)).getD i 0/\(I.map (·.wN)).getD i 0<=8:=fun i hi=>by rw[ns_at,hpas.wn (by omega)];have k:=prt_lens (hA.parts i (by omega));omega
  have hpo:=plans_or (s:=(s%2305843009213688669)) (seed:=seed) hns
  rw[<-hepls,hnl,<-hets]at hpo
  have htl:ts.length=b.1.length:=by rw[hets,partsL_len (by omega) (by omega)];omega
  have how:(s%2305843009213688669)≠0/\(s%2305843009213688669)<q:=⟨by omega,Nat.mod_lt _ (by decide)⟩
  have hQ:=held_Q hA ar.2.2 how htl (by rw[hets];exact partsL_lt _ _)
  have hwe:=want_four hQ.want
  refine W.cl go57 rfl rfl (new_pool aC) ?_
  rintro _ cv ⟨ay,aE,rfl,Z,J⟩
  have aS:=aw.trans J
  refine Wn 1 rfl (Nx (Sq (Sr (Wn 1 rfl (Wa (.dec (.isNilP (by kernel_rfl) rfl) rfl) rfl (Wn 2 rfl (Wg (.len underlying35 rfl) rfl (Wn 1 rfl (Wg (.len underlying31 rfl) rfl ?_)))))))))
  refine Wg (Any.rd (.dec (.neq rfl rfl) (dF (by omega))) _) rfl (Wn 3 rfl (Wg (.len underlying37 rfl) rfl (Wn 1 rfl (Wg (.len underlying31 rfl) rfl (Wn 2 rfl (Nx ?_))))))
  by_cases O:((pls.length:Nat):Int)≠((b.1.length:Nat):Int)
  ·refine Cy rfl (dT O) (Sr (Wn 3 rfl (Wg (Any.rd (.dec (.notNilP (by kernel_rfl) rfl) rfl) _) rfl (Wn 3 rfl (Wg (.len underlying35 rfl) rfl (Wn 1 rfl ?_))))))
   refine Wg (.len underlying31 rfl) rfl (Wg (Any.rd (.dec (.eql rfl rfl) (dT (by omega))) _) rfl (Wn 2 rfl (Nx (Rt (E.thenR (E.retG1 rfl rfl ?_))))))
   exact⟨rfl,aS⟩
  refine Cn rfl (dF O) ?_
  have hplk:pls=planK (s%2305843009213688669) seed (I.map (·.wN)) ts.length:=(hpo.resolve_right (fun h=>by have h1:=congrArg List.length h.1;rw[List.length_nil]at h1;omega)).2
  have hpll:pls.length=ts.length:=by rw[hplk,planK_len]
  refine Sn (Sq (Sr (Wn 4 rfl (W.cl go58 rfl rfl ((by have h:=want_pool 4 (s%2305843009213688669) a 10 x (by omega) Z;simp only[hwe]at h;exact h)) ?_))))
  rintro _ aa ⟨bG,rfl,bH,cw,K⟩
  have aT:=aS.chP_then K (fun i hi=>Nat.le_trans aw.size (Z.old hi))
  have bI:=(ax.le J).chPN ax K (fun i hi=>by have:=Z.old hi;omega)
  have aU:=(au.le (H.trans J)).chP K (show∀g,rowOf ae V=some g->¬aE g from(fun g hg hF=>by have:=Z.old hF;have:=H.size;have:=(au.row hg).2;omega))
  have aV:=(am.le (H.trans J)).chP K (show∀g,rowOf ah ai=some g->¬aE g from(fun g hg hF=>by have:=Z.old hF;have:=H.size;have:=(am.row hg).2;omega))
  have aW:=(av.le J).chPN av K (fun i hi=>by have:=Z.old hi;omega)
  have aX:=(R.le J).chP K (show∀g,rowOf aj ak=some g->¬aE g from(fun g hg hF=>by have:=Z.old hF;have:=(R.row hg).2;omega))
  refine Wa (.dec (.neq rfl rfl) (show _=false from by first|decide|rfl)) rfl ?_
  refine Nx (WC.condF rfl (Sn (Sr (Wn 1 rfl (Nx (Sq (Sr (Wn 1 rfl (Nx (WC.block ?_))))))))))
  refine WC.loop (ι:=Nat×(Nat->Prop)×Pay×((Option Addr))×Nat×((List Paid))×((List Nat))) (fun⟨i,F,p,As,cS,po,sh⟩=>[(5,.int .i64 (x)),(19,.bool true),(21,.slice ae b.1.length V),(24,.int .u64 (((s%2305843009213688669:Nat):Int))),(25,.slice ah ts.length ai),(26,.slice aj pls.length ak),(27,.pointer (some ⟨ay,0,none⟩)),(28,.slice As sh.length cS),(29,.int .i64 (((i:Nat):Int)))]) (fun⟨i,F,p,As,cS,po,sh⟩ t=>(i<=b.1.length)/\(PG (s%2305843009213688669) (b.1.map (·.amt)) ts a x b.1.length i p po)/\(sh=po.map (·.sec))/\Le w t/\aa.heap.size<=t.heap.size/\OVec t P.heap.size 34 prV 4 ae b.1.length V I/\PasAt t P.heap.size I b.1/\OVec t al.heap.size 28 pv1 1 ah ts.length ai ts/\OVec t Q.heap.size 41 plV 2 aj pls.length ak f/\PlnsAt t Q.heap.size f pls/\Pool t aC.heap.size ay F ([(4,p)])/\OVec t aa.heap.size 28 pv1 1 As sh.length cS sh/\(∀q,rowOf As cS=some q->¬F q)) (fun⟨i,F,p,As,cS,po,sh⟩=>b.1.length-i) (0,bG,newP (s%2305843009213688669) a 10 x,none,0,[],[]) ?_ ?_ ?_
  ·exact .of rfl
  ·exact⟨Nat.zero_le _,PG.zero hQ,rfl,aT,Nat.le_refl _,aU,bI,aV,aX,aW,bH,(OVec.nil aa aa.heap.size 28 pv1 1 none),(fun q hq=>by simp[rowOf]at hq)⟩
  rintro⟨i,F,p,As,cS,po,sh⟩ t ⟨hi,hP,aY,aZ,bJ,bK,a0,bL,a1,a2,aF,a3,bM⟩
  have cx:P.heap.size<=t.heap.size:=by have:=af.size;have:=X.size;have:=Y.size;have:=T.size;have:=H.size;have:=J.size;have:=K.size;omega
  have a4:P.heap.size<=t.heap.size:=by have:=af.size;have:=X.size;have:=Y.size;have:=T.size;have:=H.size;have:=J.size;have:=K.size;omega
  have bN:al.heap.size<=t.heap.size:=by have:=T.size;have:=H.size;have:=J.size;have:=K.size;omega
  have cy:Q.heap.size<=t.heap.size:=by have:=H.size;have:=J.size;have:=K.size;omega
  have a5:Q.heap.size<=t.heap.size:=by have:=H.size;have:=J.size;have:=K.size;omega
  have bO:aa.heap.size<=t.heap.size:=by omega
  refine Sq (Sr (Wn 2 rfl (Wr (.len underlying31 rfl) rfl (Wn 1 rfl (Nx ?_)))))
  by_cases c5:((i:Nat):Int)<((b.1.length:Nat):Int)
  ·refine Cy rfl (dT c5) (Sn (Sq (WC.block (Sq (Sr ?_)))))
   have pw:=a0.2 i (by omega)
   have pwa:=pw.amt;have pww:=pw.way.1;have pws:=pw.sent.1;have pwt:=pw.till.1
   have pl:=a2.2 i (by omega)
   have plp:=pl.pts.1;have plb:=pl.bl.1
   have hpk:=hA.parts i (by omega)
   have a6:=prt_lens hpk
   have hwn:=hpas.wn (i:=i) (by omega)
   have hpe:(pls.getD i noPln)=planT (ts.getD i 0) (seedD seed i) (b.1.getD i noPrt).way.length:=by rw[hplk,planK_at _ _ _ (by omega)];unfold planAt;rw[hnl,<-hets,ns_at,hwn]
   have a7:=planT_len (ts.getD i 0) (seedD seed i) a6.2.2.1
   rw[<-hpe]at a7
   have hla:(pls.getD i noPln).pts.getD ((pls.getD i noPln).pts.length-1) 0=base (ts.getD i 0):=by rw[a7.1,hpe];exact planT_last _ _ a6.2.2.1
   have hXp:(⟨((i:Nat):Int),1,(I.getD i noPaR).amt,x,(pls.getD i noPln).pts.getD ((pls.getD i noPln).pts.length-1) 0,addS ((ts.getD i 0)) (negS (s%2305843009213688669))⟩:Part)=(prtG (s%2305843009213688669) (b.1.map (·.amt)) ts x i):=by show Part.mk _ _ _ _ _ _=Part.mk _ _ _ _ _ _;rw[hla,pwa,amt_at (by omega)]
   obtain⟨k1,k2,k3⟩:=hP.step hQ (by omega)
   obtain⟨Oq,hOq⟩:∃z,z=outP p (prtG (s%2305843009213688669) (b.1.map (·.amt)) ts x i) 9:=⟨_,rfl⟩
   obtain⟨Nq,hNq⟩:∃z,z=nextP p (prtG (s%2305843009213688669) (b.1.map (·.amt)) ts x i) 9:=⟨_,rfl⟩
   rw[<-hOq]at k2
   rw[<-hOq,<-hNq]at k3
   have hsh:sh=[]:=by rw[aY,(hP.opn (by omega)).2.2.2.2];rfl
   have hta:∀k,k<Oq.length->_:=fun k hk=>k3.at_ (by omega) (k:=k) hk
   refine Wn 2 rfl (Wa (.idxS (i) underlying37 sz41 rfl rfl (R.vec.isSome plV_row (by omega)) (rfl) (by omega)) rfl (Wa (.vfield fa41_0 (R.vec.isSome plV_row (by omega)) rfl) rfl (Wr (.vcell (j:=i) (o:=0) (v:= .slice ((f.getD i noPlR).pA) ((f.getD i noPlR).pN) ((f.getD i noPlR).pC)) na39 rfl a1.vec plV_row (getS f noPlR (by omega)) rfl) rfl (Wr (.len underlying39 rfl) rfl (Wa (.dec (.lss rfl rfl) (dF (by omega))) rfl ?_)))))
   refine Nx (WC.condF rfl (Sn (Sq (WC.draw [0,1,2,3,4,5,6,7,8,9,10,11,12,13,14] mixed (by kernel_rfl) fun cz u=>(Gn 2 rfl (Ga rfl (.idxS (i) underlying37 sz41 rfl rfl (R.vec.isSome plV_row (by omega)) (rfl) (by omega)) (Ga rfl (.vfield fa41_0 (R.vec.isSome plV_row (by omega)) rfl) ?_)))))))
   have aG:=(a1.le u)
   refine Gd rfl (.vcell (j:=i) (o:=0) (v:= .slice ((f.getD i noPlR).pA) ((f.getD i noPlR).pN) ((f.getD i noPlR).pC)) na39 rfl aG.vec plV_row (getS f noPlR (by omega)) rfl) (Gn 2 rfl (Ga rfl (.idxS (i) underlying37 sz41 rfl rfl (R.vec.isSome plV_row (by omega)) (rfl) (by omega)) (Ga rfl (.vfield fa41_0 (R.vec.isSome plV_row (by omega)) rfl) (Gd rfl (.vcell (j:=i) (o:=0) (v:= .slice ((f.getD i noPlR).pA) ((f.getD i noPlR).pN) ((f.getD i noPlR).pC)) na39 rfl aG.vec plV_row (getS f noPlR (by omega)) rfl) (Gd rfl (.len underlying39 rfl) ?_)))))
   refine Ga rfl (.sub rfl rfl (by omega)) (Ga rfl (.idxS (((pls.getD i noPln).pts.length-1)) underlying39 sz43 rfl rfl (pl.pts.vec.isSome pv1_row (by omega)) (by omega) (by omega)) (Gd rfl (.vone (v:= .int .u64 ((((((pls.getD i noPln).pts).getD ((pls.getD i noPln).pts.length-1) 0):Nat):Int))) na43 rfl (pl.pts.le u).vec pv1_row (getS ((pls.getD i noPln).pts) 0 (by first|omega|(simp only[List.length_cons,List.length_nil];omega))) rfl) ?_))
   refine Gn 1 rfl (G.nil (E.thenN (Sq (WC.draw [0,1,2,3,4,5,6,7,8,9,10,11,12,13,14,15,16,17,18,19,20,21] mixed (by kernel_rfl) fun bP C=>(Gn 4 rfl (Ga rfl (.idxS (i) underlying31 sz34 rfl rfl (aq.vec.isSome prV_row (by omega)) (rfl) (by omega)) (Ga rfl (.vfield fa34_0 (aq.vec.isSome prV_row (by omega)) rfl) ?_)))))))
   have a8:=(bK.le (u.trans C))
   refine Gd rfl (.vcell (j:=i) (o:=0) (v:= .int .i64 ((I.getD i noPaR).amt)) na3 rfl a8.vec prV_row (getS I noPaR (by omega)) rfl) (Gn 4 rfl (Ga rfl (.idxS (i) underlying35 sz28 rfl rfl (am.vec.isSome pv1_row (by omega)) (rfl) (by omega)) ?_))
   have a9:=(bL.le (u.trans C))
   refine Gd rfl (.vone (v:= .int .u64 ((((ts.getD i 0):Nat):Int))) na28 rfl a9.vec pv1_row (getS ts 0 (by omega)) rfl) (Gn 1 rfl (G.ef rfl rfl rfl rfl rfl (Ef.call go60 rfl rfl (fsub_ok (ts.getD i 0) (s%2305843009213688669) bP) ?_)))
   rintro _ ba ⟨rfl,y⟩
   refine⟨_,rfl,?_⟩
   refine⟨fun _=>y,?_⟩
   refine Ga rfl (.buildP (partV (prtG (s%2305843009213688669) (b.1.map (·.amt)) ts x i)) pl125 z125 rfl (by rw[<-hXp];rfl)) ?_
   have ab:=(aF.le (u.trans (C.trans y)))
   refine G.ef rfl rfl rfl rfl rfl (Ef.call go59 rfl rfl ((by have h:=add_pool 4 (prtG (s%2305843009213688669) (b.1.map (·.amt)) ts x i) 9 ab;simp only[add_four,k1,<-hOq,<-hNq]at h;exact h)) ?_)
   rintro _ bQ ⟨az,bb,bc,rfl,ac,bR,bS,cA,D⟩
   refine⟨_,rfl,?_⟩
   refine noT (by kernel_rfl) ?_
   have bd:=(a3.le (u.trans (C.trans y)))
   have bT:=(a9.le y).chP D (show∀g,rowOf ah ai=some g->¬F g from(fun g hg hF=>by have:=ab.old hF;have:=H.size;have:=(am.row hg).2;omega))
   have bU:=(a2.le (u.trans (C.trans y))).chPN av D (fun i hi=>by have:=ab.old hi;omega)
   have bV:=(aG.le (C.trans y)).chP D (show∀g,rowOf aj ak=some g->¬F g from(fun g hg hF=>by have:=ab.old hF;have:=(R.row hg).2;omega))
   have be:=(show∀g,rowOf As cS=some g->¬F g from bM)
   have bW:∀g,rowOf As cS=some g->¬az g:=fun g hg hF=>(bS _ hF).elim (be g hg) (fun hz=>by have:=(bd.row hg).2;omega)
   refine Gn 5 rfl (G.nil (E.thenN (Sq (Sr (Wn 1 rfl (Wa (.dec (.neq rfl rfl) (show _=false from by first|decide|rfl)) rfl ?_))))))
   refine Wn 2 rfl (Wg (.len underlying121 rfl) rfl (Wn 3 rfl (Wg (.len underlying31 rfl) rfl (Wg (Any.rd (.sub rfl rfl (by omega)) _) rfl (Wn 1 rfl ?_)))))
   refine Wg (Any.rd (.bneq underlying4 rfl rfl) _) rfl (Wn 1 rfl (Nx (Cn rfl ((Bool.eq_false_iff.2 (by rw[k2];simp))) ?_)))
   refine Sn (Sr (Wn 1 rfl (Nx (WC.block ?_))))
   refine WC.loop (ι:=Nat×((Option Addr))×Nat) (fun⟨k,U,O⟩=>[(5,.int .i64 (x)),(19,.bool true),(21,.slice ae b.1.length V),(24,.int .u64 (((s%2305843009213688669:Nat):Int))),(25,.slice ah ts.length ai),(26,.slice aj pls.length ak),(27,.pointer (some ⟨ay,0,none⟩)),(28,.slice U k O),(29,.int .i64 (((i:Nat):Int))),(31,.slice bb Oq.length bc),(33,.int .i64 (((k:Nat):Int)))]) (fun⟨k,U,O⟩ e=>(k<=Oq.length)/\Le w e/\bQ.heap.size<=e.heap.size/\OVec e P.heap.size 34 prV 4 ae b.1.length V I/\PasAt e P.heap.size I b.1/\OVec e al.heap.size 28 pv1 1 ah ts.length ai ts/\OVec e Q.heap.size 41 plV 2 aj pls.length ak f/\PlnsAt e Q.heap.size f pls/\Pool e aC.heap.size ay az ([(4,Nq)])/\OVec e aa.heap.size 28 pv1 1 U k O ((Oq.take k).map (·.sec))/\OVec e ba.heap.size 127 paidV 3 bb Oq.length bc Oq/\(∀q,rowOf U O=some q->¬az q)) (fun⟨k,U,O⟩=>Oq.length-k) (0,As,cS) ?_ ?_ ?_
   ·exact .cons rfl (.cons rfl (.cons rfl (.cons rfl (.cons rfl (.cons rfl (.cons rfl (.cons' rfl (congrArg (fun k=>Value.slice As k cS) (by simp[hsh])) (.of rfl))))))))
   ·exact⟨Nat.zero_le _,((((aZ.trans u).trans C).trans y).chP_then D (fun i hi=>Nat.le_trans aw.size (ab.old hi))),Nat.le_refl _,((a8.le y).chP D (show∀g,rowOf ae V=some g->¬F g from(fun g hg hF=>by have:=ab.old hF;have:=H.size;have:=(au.row hg).2;omega))),((a0.le (u.trans (C.trans y))).chPN ax D (fun i hi=>by have:=ab.old hi;omega)),bT,bV,bU,bR,((bd.chP D be).cast (by rw[hsh];rfl) (by rw[hsh];rfl)),ac,bW⟩
   rintro⟨k,U,O⟩ e ⟨hk,bf,bg,bh,bi,bj,bk,bm,aH,aI,bn,aJ⟩
   have cB:P.heap.size<=e.heap.size:=Nat.le_trans a4 (by have:=u.size;have:=C.size;have:=y.size;have:=D.size;omega)
   have cC:P.heap.size<=e.heap.size:=Nat.le_trans a4 (by have:=u.size;have:=C.size;have:=y.size;have:=D.size;omega)
   have cD:al.heap.size<=e.heap.size:=Nat.le_trans bN (by have:=u.size;have:=C.size;have:=y.size;have:=D.size;omega)
   have cE:Q.heap.size<=e.heap.size:=Nat.le_trans a5 (by have:=u.size;have:=C.size;have:=y.size;have:=D.size;omega)
   have cF:Q.heap.size<=e.heap.size:=Nat.le_trans a5 (by have:=u.size;have:=C.size;have:=y.size;have:=D.size;omega)
   have bX:aa.heap.size<=e.heap.size:=Nat.le_trans bO (by have:=u.size;have:=C.size;have:=y.size;have:=D.size;omega)
   have cG:ba.heap.size<=e.heap.size:=by have:=D.size;omega
   refine Sq (Sr (Wn 2 rfl (Wr (.len underlying121 rfl) rfl (Wn 1 rfl (Nx ?_)))))
   by_cases c8:((k:Nat):Int)<((Oq.length:Nat):Int)
   ·refine Cy rfl (dT c8) (Sn (Sq (WC.block (Sq (Sq (WC.draw [0,1,2,3,4,5,6,7,8,9,10,11,12,13,14,15,16,17,18] mixed (by kernel_rfl) fun bY L=>?_))))))
    have cH:=(hta k (by omega)).2.2
    refine Gn 2 rfl (Ga rfl (.idxS (k) underlying121 sz127 rfl rfl (ac.vec.isSome paidV_row (by omega)) (rfl) (by omega)) (Ga rfl (.vfield fa127_0 (ac.vec.isSome paidV_row (by omega)) rfl) ?_))
    have aA:=(bn.le L)
    refine Gd rfl (.vcell (j:=k) (o:=0) (v:= .int .i64 ((Oq.getD k noPaid).ch)) na3 rfl aA.vec paidV_row (getS Oq noPaid (by omega)) rfl) (Gn 1 rfl (Ga rfl (.dec (.neq rfl rfl) (dF (fun h=>h (hta k (by omega)).1))) (Gn 3 rfl (Gag rfl (.idxS (k) underlying121 sz127 rfl rfl (ac.vec.isSome paidV_row (by omega)) (rfl) (by omega)) (Gag rfl (.vfield fa127_2 (ac.vec.isSome paidV_row (by omega)) rfl) ?_)))))
    refine Gdg rfl (.vcell (j:=k) (o:=2) (v:= .int .u64 ((((Oq.getD k noPaid).sec:Nat):Int))) na28 rfl aA.vec paidV_row (getS Oq noPaid (by omega)) rfl) (Gn 2 rfl (Gag rfl (.idxS (k) underlying35 sz28 rfl rfl (am.vec.isSome pv1_row (by omega)) (rfl) (by omega)) ?_))
    have bo:=(bj.le L)
    refine Gdg rfl (.vone (v:= .int .u64 ((((ts.getD k 0):Nat):Int))) na28 rfl bo.vec pv1_row (getS ts 0 (by omega)) rfl) (Gag rfl (.dec (.neq rfl rfl) (dF (fun h=>h (congrArg Nat.cast (hta k (by omega)).2.1)))) (Gn 1 rfl (G.nil (E.thenN (WC.condF rfl (Sn (WC.region (Wn 3 rfl (Wa (.idxS (k) underlying121 sz127 rfl rfl (ac.vec.isSome paidV_row (by omega)) (rfl) (by omega)) rfl (Wa (.vfield fa127_2 (ac.vec.isSome paidV_row (by omega)) rfl) rfl (Wr (.vcell (j:=k) (o:=2) (v:= .int .u64 ((((Oq.getD k noPaid).sec:Nat):Int))) na28 rfl aA.vec paidV_row (getS Oq noPaid (by omega)) rfl) rfl ?_)))))))))))
    refine W.ef rfl rfl rfl (Ef.buildSliceV (len:=1) [_] underlying35 el28 rfl (by simp[Value.cells]) rfl (by decide) (by decide) ?_)
    intro bp bq bZ aB N
    have aB:Blk bq bp 28 (([(Oq.getD k noPaid).sec]).map pv1).flatten.toArray:=aB
    have cI:OVec bq bY.heap.size 28 pv1 1 (some ⟨bp,0,none⟩) 1 1 ([(Oq.getD k noPaid).sec]):=aB.ovec bZ pv1_row rfl rfl (by decide)
    have ad:=(aI.le (L.trans N))
    refine W.ef rfl rfl rfl (Ef.vpush (a:=((Oq.getD k noPaid).sec)) underlying35 el28 underlying35 pv1_row rfl ad rfl aB (by omega) (by unfold maxLen;omega) (by have:=bX;have:=L.size;have:=N.size;omega) ?_)
    intro b0 b1 cJ b2 S b3
    refine Wn 1 rfl (W.nil (E.blkN (E.thenN (WC.region (Wn 1 rfl (Wa (.add rfl rfl (by omega)) rfl (Wn 1 rfl (W.nil ?_))))))))
    have b4:=((bh.le (L.trans N)).ch S ((Apart.symm (fun q h1 h2=>by have:=(aU.row h1).2;have:=(ad.row h2).1;omega))))
    have b5:=((bi.le (L.trans N)).chO S ad (by decide) (by decide))
    have b6:=((bo.le N).ch S ((Apart.symm (fun q h1 h2=>by have:=(aV.row h1).2;have:=(ad.row h2).1;omega))))
    have b7:=((bk.le (L.trans N)).ch S ((Apart.symm (fun q h1 h2=>by have:=(aX.row h1).2;have:=(ad.row h2).1;omega))))
    have b8:=((bm.le (L.trans N)).chNew aW S (fun q hq=>by have:=(ad.row hq).1;omega))
    have b9:=((aA.le N).ch S ((aI.apart_ty bn (by decide))))
    refine E.again (k+1,b0,b1) (.of rfl) ?_ ?_
    ·exact⟨by omega,(((bf.trans L).trans N).then_ S (fun q hq=>Nat.le_trans aT.size (ad.row hq).1)),by have:=bg;have:=L.size;have:=N.size;have:=S.size;omega,b4,b5,b6,b7,b8,((aH.le (L.trans N)).ch S (fun q hqq hF=>aJ q hqq hF)),(b2.cast rfl (told_next (by omega)).symm),b9,(fun g hg hF=>(b3 g hg).elim (fun hz=>aJ g hz hF) (fun hz=>by have:=aH.lt hF;have:=L.size;have:=N.size;omega))⟩
    first|omega|(simp only[];omega)
   refine Cn rfl (dF c8) (WC.exit (E.thenX (E.thenX (E.blkH (E.blkN (E.thenN (WC.region (Wn 1 rfl (Wa (.add rfl rfl (by omega)) rfl (Wn 1 rfl (W.nil (E.again (i+1,az,Nq,U,O,Oq,((Oq.take k).map (·.sec))) (.cons rfl (.cons rfl (.cons rfl (.cons rfl (.cons rfl (.cons rfl (.cons rfl (.cons' rfl (congrArg (fun m=>Value.slice U m O) (by rw[List.length_map,List.length_take];omega)) (.cons rfl (.nil _)))))))))) ?_ ?_))))))))))))
   ·exact⟨by omega,k3,(by rw[List.take_of_length_le (by omega)]),bf,by have:=bJ;have:=bg;have:=aO.size;have:=an.size;have:=ao.size;have:=ap.size;have:=af.size;have:=X.size;have:=Y.size;have:=T.size;have:=H.size;have:=J.size;have:=K.size;have:=u.size;have:=C.size;have:=y.size;have:=D.size;omega,bh,bi,bj,bk,bm,aH,(aI.cast (by rw[List.length_map,List.length_take];omega) rfl),aJ⟩
   first|omega|(simp only[];omega)
  refine Cn rfl (dF c5) (WC.exit (E.thenX (E.thenX (E.blkH (E.thenN (Sr ?_))))))
  have hie:i=b.1.length:=by omega
  obtain⟨z1,z2,z3⟩:=hP.cls hie
  have hst:sh=ts:=by rw[aY,hP.told (by omega) htl,hie];exact if_pos rfl
  have hshl:sh.length<=8:=by rw[hst];omega
  refine Wn 1 rfl (W.cl go61 rfl rfl ((by have h:=over_pool 4 aF;simp only[over_four]at h;exact h)) ?_)
  rintro _ ca ⟨rfl,aK⟩
  refine Wn 5 rfl (Nx (Sr (Wn 3 rfl (Wg (.len underlying35 rfl) rfl (Wn 1 rfl (Wg (.len underlying31 rfl) rfl (Wg (Any.rd (.dec (.eql rfl rfl) (dT (by rw[hst,htl]))) _) rfl ?_)))))))
  refine Wn 3 rfl (W.efg rfl rfl rfl (rfl) rfl rfl (Ef.call go24 rfl rfl (whole_ok ca (Vec.sl (g1:=pv) (a3.le aK).vec) (by omega)) ?_))
  rintro _ cK ⟨rfl,bs⟩
  refine⟨_,rfl,?_⟩
  refine Wn 1 rfl (Wg (Any.rd (.dec (.eql rfl rfl) (dT (congrArg Nat.cast (show sumS sh=(s%2305843009213688669) by rw[hst,hets];exact(partsL_whole (by omega) (by omega)).trans (Nat.mod_eq_of_lt how.2))))) _) rfl ?_)
  refine Wn 3 rfl (Wa (.dec (.pickT rfl rfl rfl) (z1)) rfl (Wn 2 rfl (Wa (.dec (.pickT rfl rfl rfl) (z2)) rfl (Wn 2 rfl ?_))))
  have bt:=(aF.le (aK.trans bs))
  refine W.efg rfl rfl rfl (rfl) rfl rfl (Ef.call go62 rfl rfl (late_pool 99 bt (by simp)) ?_)
  rintro _ cL ⟨cM,cN,cO,rfl,cP,cQ,cR,cT,cc⟩
  refine⟨_,rfl,?_⟩
  refine Wg (.len underlying130 rfl) rfl (Wg (Any.rd (.dec (.eql rfl rfl) (dT (by rw[late_four 99 z1];rfl))) _) rfl ?_)
  refine Wn 2 rfl (Nx (Rt (E.retG1 rfl rfl ?_)))
  exact⟨rfl,(((aZ.trans aK).trans bs).chP_then cc (fun i hi=>Nat.le_trans aw.size (bt.old hi)))⟩
 refine Wa (.dec (.move rfl) (congrArg not ((Bool.eq_false_iff.2 aP)))) rfl (Wn 4 rfl (Nx (WC.condT rfl (Sr (Wn 2 rfl (Nx (Rt (E.thenR (E.retG1 rfl rfl ?_)))))))))
 exact⟨rfl,L3⟩
end Go.Proofs.YtocheaahlpiajaaGreatDoor

