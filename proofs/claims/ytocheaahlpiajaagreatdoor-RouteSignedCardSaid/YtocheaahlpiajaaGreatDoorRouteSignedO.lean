/- RouteSigned: for every input the law answers true and leaves its arguments as they were. -/
import Derived.Test.YtocheaahlpiajaaGreatDoorRouteSignedN
import Derived.Shelf.SlSortCmp.NoneTotal
import Derived.Lib.QuietBelow
import Derived.Ground.SlsfProg
set_option linter.unusedVariables false
set_option linter.unusedSimpArgs false
set_option maxRecDepth 20000
namespace Go.Proofs
open Go.Shelf
def Tryz.sortF_ren:Go.Shelf.Ren:=⟨fun|6=>235|15=>287|14=>286|28=>325|29=>326|20=>317|21=>318|22=>319|23=>320|24=>321|25=>322|26=>323|27=>324|46=>344|47=>345|48=>346|49=>347|50=>348|57=>359|n=>n,fun|22=>132|24=>140|25=>315|3=>3|39=>287|0=>0|53=>273|55=>27|4=>4|46=>377|45=>376|50=>173|5=>5|9=>9|66=>392|70=>396|76=>406|77=>149|n=>n,fun|n=>n⟩
theorem Tryz.sortF:Go.Proofs.SlLaysF0.n6 prog Tryz.sortF_ren:={
  mixed:=by kernel_rfl
  f6:=⟨Tryz.f235.name,by decide,func235.trans (congrArg some (by kernel_rfl))⟩
  f14:=⟨Tryz.f286.name,by decide,func286.trans (congrArg some (by kernel_rfl))⟩
  f15:=func287.trans (congrArg some (by kernel_rfl))
  f20:=⟨Tryz.f317.name,by decide,func317.trans (congrArg some (by kernel_rfl))⟩
  f21:=⟨Tryz.f318.name,by decide,func318.trans (congrArg some (by kernel_rfl))⟩
  f22:=⟨Tryz.f319.name,by decide,func319.trans (congrArg some (by kernel_rfl))⟩
  f23:=⟨Tryz.f320.name,by decide,func320.trans (congrArg some (by kernel_rfl))⟩
  f24:=⟨Tryz.f321.name,by decide,func321.trans (congrArg some (by kernel_rfl))⟩
  f25:=⟨Tryz.f322.name,by decide,func322.trans (congrArg some (by kernel_rfl))⟩
  f26:=⟨Tryz.f323.name,by decide,func323.trans (congrArg some (by kernel_rfl))⟩
  f27:=⟨Tryz.f324.name,by decide,func324.trans (congrArg some (by kernel_rfl))⟩
  f28:=func325.trans (congrArg some (by kernel_rfl))
  f29:=func326.trans (congrArg some (by kernel_rfl))
  f46:=⟨Tryz.f344.name,by decide,func344.trans (congrArg some (by kernel_rfl))⟩
  f47:=func345.trans (congrArg some (by kernel_rfl))
  f48:=func346.trans (congrArg some (by kernel_rfl))
  f49:=⟨Tryz.f347.name,by decide,func347.trans (congrArg some (by kernel_rfl))⟩
  f50:=⟨Tryz.f348.name,by decide,func348.trans (congrArg some (by kernel_rfl))⟩
  f57:=⟨Tryz.f359.name,by decide,func359.trans (congrArg some (by kernel_rfl))⟩
  t0:=underlying0
  a0:=Tryz.isAgg0
  z0:=Tryz.sizeOf0
  v0:=Tryz.zeroValue0
  t3:=underlying3
  a3:=Tryz.isAgg3
  z3:=Tryz.sizeOf3
  v3:=Tryz.zeroValue3
  t4:=underlying4
  a4:=Tryz.isAgg4
  z4:=Tryz.sizeOf4
  v4:=Tryz.zeroValue4
  t5:=underlying5
  a5:=Tryz.isAgg5
  z5:=Tryz.sizeOf5
  v5:=Tryz.zeroValue5
  t9:=underlying9
  a9:=Tryz.isAgg9
  z9:=Tryz.sizeOf9
  v9:=Tryz.zeroValue9
  t22:=underlying132
  a22:=Tryz.isAgg132
  z22:=Tryz.sizeOf132
  v22:=Tryz.zeroValue132
  t25:=underlying315
  a25:=Tryz.isAgg315
  z25:=Tryz.sizeOf315
  v25:=Tryz.zeroValue315
  t39:=underlying287
  a39:=Tryz.isAgg287
  z39:=Tryz.sizeOf287
  v39:=Tryz.zeroValue287
  t45:=underlying376
  a45:=Tryz.isAgg376
  z45:=Tryz.sizeOf376
  v45:=Tryz.zeroValue376
  t46:=underlying377
  a46:=Tryz.isAgg377
  z46:=Tryz.sizeOf377
  v46:=Tryz.zeroValue377
  t50:=underlying173
  a50:=Tryz.isAgg173
  z50:=Tryz.sizeOf173
  v50:=Tryz.zeroValue173
  t53:=underlying273
  a53:=Tryz.isAgg273
  z53:=Tryz.sizeOf273
  v53:=Tryz.zeroValue273
  t55:=underlying27
  a55:=Tryz.isAgg27
  z55:=Tryz.sizeOf27
  v55:=Tryz.zeroValue27
  t66:=underlying392
  a66:=Tryz.isAgg392
  z66:=Tryz.sizeOf392
  v66:=Tryz.zeroValue392
  t70:=underlying396
  a70:=Tryz.isAgg396
  z70:=Tryz.sizeOf396
  v70:=Tryz.zeroValue396
  t76:=underlying406
  a76:=Tryz.isAgg406
  z76:=Tryz.sizeOf406
  v76:=Tryz.zeroValue406
  t77:=underlying149
  a77:=Tryz.isAgg149
  z77:=Tryz.sizeOf149
  v77:=Tryz.zeroValue149}
end Go.Proofs
namespace Go.Sx
open Go Go.RowKit
section
variable {P:Program}{env:Env}{n:Nat}{d:Option Nat}{T:TypeId}{p:String}{af:Array Edge}{g:Option (Nat×Bool)}{w w':World}{K:Value->World->Prop}{ops:Array Oper}{Q:Exit->Act->World->Prop}
theorem WC.drawD {id:Nat}(plan:List Nat)(hm:P.follows .mixedOrders=true)(hp:planOK ops plan=true)
    (h:∀w',Le w w'->w'.drawn=w.drawn+1->G P ops Q n plan env w'):WC P Q n (.region id ops true) env w:=fun a ha=>wp_draw plan hm hp (h _ (Le.drew w) rfl a ha)
theorem Ef.boxAD {t:TypeId}{x:Operand}{cs:Array Value}(hx:ev env x=some (.agg cs))(h:∀gb w',w.heap.size<=gb->Blk w' gb t cs->Le w w'->w'.drawn=w.drawn->K (.pointer (some ⟨gb,0,none⟩)) w'):Ef P env n ⟨d,.box t x,T,p,af,g⟩ w K:=
  .of_run (v:= .pointer (some ⟨w.heap.size,0,none⟩)) (w':=w.alloc (.cells cs t)) (fun a ha=>by
    simp[execOp,Instr.box,ha.eval hx,newVar,newRow,Value.cells]) (h _ _ (Nat.le_refl _) (Blk.new w t _) (Le.alloc w _) rfl)
theorem Ef.buildSliceVD {t e b s len:Nat}{z:Value}{parts:Array (Nat×Operand)}(vs:List Value)(ht:P.underlying t=some (.slice e))(hel:El P e s b z)(hp:evp env parts.toList=some (enumV 0 vs))(h1:∀v∈vs,v.cells.size=s)(hl:vs.length=len)(hlen:len*s<=16777216)(hpos:0<len)
    (h:∀gb w',w.heap.size<=gb->Blk w' gb e (flatV vs).toArray->Le w w'->w'.drawn=w.drawn->K (.slice (some ⟨gb,0,none⟩) len len) w'):Ef P env n ⟨d,.buildSlice t len parts,T,p,af,g⟩ w K:=by
  have c:0<s:=by obtain⟨i,_,_,_,_,_,f⟩:=hel;exact f
  have hfl:(flatV vs).length=len*s:=by rw[flatV_length s vs h1,hl]
  have hmap:((Array.range (len*s)).map (fun x=>z.cells[x%z.cells.size]!)).size=len*s:=by simp
  obtain⟨zl,hzl⟩:∃zl:List Value,((Array.range (len*s)).map (fun x=>z.cells[x%z.cells.size]!))=zl.toArray:=⟨_,(Array.toArray_toList).symm⟩
  have hzlen:zl.length=len*s:=by rw[hzl]at hmap;simpa using hmap
  have hf:=fill_go (fun i=>some (i*s,s)) vs 0 [] zl (by simpa using cont_arr s vs 0 h1) (by omega)
  have hd:zl.drop (flatV vs).length=[]:=List.drop_of_length_le (by omega)
  rw[hd,List.append_nil,List.nil_append,List.nil_append]at hf
  refine .of_run (v:= .slice (some ⟨w.heap.size,0,none⟩) len len) (w':=w.alloc (.cells (flatV vs).toArray e)) (fun a ha=>?_) (h _ _ (Nat.le_refl _) (Blk.new w e _) (Le.alloc w _) rfl)
  have hparts:parts.map (fun(i,x)=>(i,a.eval x))=(enumV 0 vs).toArray:=by rw[<-ha.evparts hp];apply Array.ext';simp
  have j:¬(len*s=0):=by have:=Nat.mul_pos hpos c;omega
  have hbig:¬(len*s>2^24):=by omega
  simp only[execOp,Instr.buildSlice,Sem.run_bind,run_underlying ht,Result.andThen_ok,hel.sz.run,hparts,newRow]
  rw[if_neg hbig,if_neg j]
  simp only[Sem.run_bind,Sem.run_pure,Result.andThen_ok,hel.zr.run]
  rw[hzl,hf]
  simp
theorem Le.of_eq (e:w'=w):Le w w':=by subst e;exact Le.refl _
theorem grown_of_le (h:Le w w')(hd:w.drawn<=w'.drawn):∃q os',w'=Go.Sort.grow (w.drewN q) os':=by
  obtain⟨⟨k,os⟩,e⟩:=regrown_of_below h
  have c:w'.drawn=k:=by rw[e];rfl
  refine⟨w'.drawn-w.drawn,os,?_⟩
  have b:w.drewN (w'.drawn-w.drawn)=redrawn w k:=by
    unfold World.drewN redrawn
    rw[show w.drawn+(w'.drawn-w.drawn)=k by omega]
  rw[b]
  exact e
section
open Go.Sort Go.Proofs
variable {α:Type}[Inhabited α]{f:α->List Value}{s:Nat}
theorem flatK_at (hf:RowF f s)(xs:List α){j:Nat}(hj:j<xs.length*s):(xs.map f).flatten[j]? =some (flatK f s xs.toArray)[j]! :=by
  have hs:=hf.pos
  have hq:j/s<xs.length:=Nat.div_lt_of_lt_mul (by rw[Nat.mul_comm];exact hj)
  have hr:j%s<(f xs[j/s]).length:=by rw[hf.len];exact Nat.mod_lt _ hs
  have b:=cells_at hf xs (j:=j/s) (o:=j%s) (List.getElem?_eq_getElem hq) (List.getElem?_eq_getElem hr)
  rw[show j/s*s+j%s=j by rw[Nat.mul_comm];exact Nat.div_add_mod j s]at b
  rw[b,get_flatK f s xs.toArray j (by simpa using hj)]
  congr 1
  simp[hq]
  rw[List.getElem?_eq_getElem hr]
  rfl
theorem holdsK_of {base e m c gb:Nat}{xs:List α}(hf:RowF f s)(h:OVec w base e f s (Option.some ⟨gb,0,none⟩) m c xs)(hm:0<m):HoldsK f s w gb 0 xs.toArray:=by
  obtain⟨cur,hB,hsz,ht⟩:=Own.block h.2 hm
  intro j hj
  rw[size_flatK]at hj
  have b:j<xs.length*s:=by simpa using hj
  have hjm:j<m*s:=by rw[<-h.1];exact b
  rw[Nat.zero_add]
  refine⟨?_,hB.frozen j⟩
  rw[hB.cell j]
  have d:=flatK_at hf xs b
  rw[<-ht,List.getElem?_take,if_pos hjm]at d
  simpa using d
theorem ofSortK {base e m c gb:Nat}{xs:List α}(hf:RowF f s)(h:OVec w base e f s (Option.some ⟨gb,0,none⟩) m c xs)(hm:0<m){d':Array α}{q:Nat}{os:Array Obj}(hd:d'.size=m)(hw:w'=sortWorldK f s w gb 0 q d' os):
    OVec w' base e f s (Option.some ⟨gb,0,none⟩) m c d'.toList/\Ch w w' (Option.some gb):=by
  obtain⟨cur,hB,hsz,ht⟩:=Own.block h.2 hm
  have hlt:=hB.lt
  have hcap:=h.cap
  have hbase:=(h.row (rowOf_some gb 0 c (by omega))).1
  have hheap:w'.heap=(w.heap.modify gb (onCells (putCells id 0 (flatK f s d'))))++os:=by rw[hw];rfl
  have hg:w'.heap[gb]? =some (.cells (putCells id 0 (flatK f s d') cur) e (0,0)):=by
    rw[hheap,Array.getElem?_append_left (by simpa using hlt),Array.getElem?_modify,if_pos rfl,show w.heap[gb]? =_ from hB]
    rfl
  have hps:(putCells id 0 (flatK f s d') cur).size=c*s:=by simp[putCells,hsz]
  refine⟨⟨by simpa using hd,?_,.inr ⟨gb,_,rfl,hbase,hg,hcap.1,hcap.2,hps,?_⟩⟩,?_⟩
  · rw[cells_len hf];simp[hd]
  · apply List.ext_getElem?
    intro j
    rw[List.getElem?_take]
    by_cases hj:j<m*s
    · rw[if_pos hj,flatK_at hf d'.toList (by simpa[hd]using hj)]
      have hjc:j<cur.size:=by rw[hsz];exact Nat.lt_of_lt_of_le hj (Nat.mul_le_mul_right _ hcap.1)
      rw[Array.getElem?_toList]
      unfold putCells
      rw[Array.getElem?_mapIdx,Array.getElem?_eq_getElem hjc,Option.map_some,if_pos ⟨Nat.zero_le _,by rw[size_flatK,hd];omega⟩]
      simp
    · rw[if_neg hj,List.getElem?_eq_none]
      rw[cells_len hf]
      simp[hd]
      omega
  · refine⟨by rw[hw];rfl,by rw[hw];rfl,by rw[hw];rfl,by rw[hheap];simp,fun k hk hne=>?_⟩
    rw[hheap,Array.getElem?_append_left (by simpa using hk),Array.getElem?_modify,if_neg (fun e=>hne (by rw[e]))]
end
end
end Go.Sx
namespace Go.Proofs.YtocheaahlpiajaaGreatDoor
open Tryz
open Go Go.Sx Go.Hsp Go.Num Go.Osp Go.Gsp Go.Asp
theorem isNaN3_ok (a:Int)(w:World):Calls prog 278 #[.int .i64 (a)] w fun r w'=>r= .returned (.bool false)/\w'=w:=by
 refine enter func278 rfl rfl (WC.sr (W.run 1 rfl (W.nx (WC.sr (W.run 4 rfl (W.nx (WC.ret (E.retG1 rfl rfl ?_))))))))
 exact⟨by simp,rfl⟩

theorem compare3_ok (a b:Int)(w:World):Calls prog 212 #[.int .i64 (a),.int .i64 (b)] w fun r w'=>r= .returned (.int .i64 (cmpI a b))/\w'=w:=by
 refine enter func212 rfl rfl (Sr (Wn 1 rfl (Nx (Sr (Wn 1 rfl (W.cl go278 rfl rfl (isNaN3_ok a w) ?_))))))
 rintro _ e ⟨rfl,f⟩;have i:=Le.of_eq f
 refine Wn 1 rfl (Nx (Sr (Wn 1 rfl (W.cl go278 rfl rfl (isNaN3_ok b e) ?_))))
 rintro _ j ⟨rfl,h⟩;have k:=Le.of_eq h
 refine Wn 1 rfl (Nx (Sq (Sr (Wn 1 rfl (Nx (WC.condF rfl (Sn (Sq (Sr (Wn 1 rfl (Nx (WC.condF rfl (Sn (Sq (Sr (Wn 3 rfl (Nx ?_)))))))))))))))))
 by_cases c:a<b
 ·refine Cy rfl (dT c) (Sr (Wn 1 rfl (Nx (Rt (E.thenR (E.retG1 rfl rfl ?_))))))
  exact⟨(by first|rfl|(simp[cmpI,c];done)|(simp[cmpI,c];omega)|(simp[cmpI,c];split<;>first|(exfalso;omega)|(simp;done)|(simp;omega))),by subst_vars;rfl⟩
 refine Cn rfl (dF c) (Sn (Sq (Sr (Wn 3 rfl (Nx ?_)))))
 by_cases d:b<a
 ·refine Cy rfl (dT d) (Sr (Wn 1 rfl (Nx (Rt (E.thenR (E.retG1 rfl rfl ?_))))))
  exact⟨(by first|rfl|(simp[cmpI,c,d];done)|(simp[cmpI,c,d];omega)|(simp[cmpI,c,d];split<;>first|(exfalso;omega)|(simp;done)|(simp;omega))),by subst_vars;rfl⟩
 refine Cn rfl (dF d) (Sn (Sr (Wn 1 rfl (Nx (Rt (E.retG1 rfl rfl ?_))))))
 exact⟨(by first|rfl|(simp[cmpI,c,d];done)|(simp[cmpI,c,d];omega)|(simp[cmpI,c,d];split<;>first|(exfalso;omega)|(simp;done)|(simp;omega))),by subst_vars;rfl⟩

theorem or3_ok {A:Option Addr}{n c:Nat}{xs:List Int}(w:World)(hV:Vec w iv 1 A n xs)(hn:n<=1000000):Calls prog 219 #[.slice A n c] w fun r w'=>r= .returned (.int .i64 (orL xs))/\w'=w:=by
 have hl:=hV.1
 refine enter func219 rfl rfl (Sr (Wn 1 rfl (Nx (Sr (Wn 1 rfl (Nx (Sq (Sr (Wn 1 rfl (Wr (.len underlying23 rfl) rfl (Wn 1 rfl (Nx (WC.block (WC.loop (ι:=Nat) (fun k=>[(3,.int .i64 (0)),(6,.slice A n c),(7,.int .i64 (((n:Nat):Int))),(8,.int .i64 (((k:Nat):Int)))]) (fun k b=>(k<=n)/\(b=w)/\(∀j,j<k->xs.getD j 0=0)/\Le w b/\w.heap.size<=b.heap.size) (fun k=>n-k) 0 ?_ ?_ ?_))))))))))))))
 ·exact .of rfl
 ·exact⟨Nat.zero_le _,rfl,fun j hj=>absurd hj (Nat.not_lt_zero _),(Le.refl w),Nat.le_refl _⟩
 rintro k b ⟨hk,hww,hz,e,i⟩
 refine Sr (Wn 1 rfl (Nx (Sq ?_)))
 by_cases f:((k:Nat):Int)<((n:Nat):Int)
 ·refine Cy rfl (dT f) (Sn (Sq (WC.block (Sr (Wa (.idxS (k) underlying23 sz3 rfl rfl (hV.isSome iv_row (by omega)) (rfl) (by omega)) rfl (Wr (.vone (v:= .int .i64 ((xs.getD k 0))) na3 rfl (hV.le e) iv_row (getS xs 0 (by omega)) rfl) rfl (Wn 1 rfl (Nx (Sr (Wn 3 rfl (Nx ?_)))))))))))
  by_cases d:(xs.getD k 0)≠0
  ·refine Cy rfl (dT d) (Sr (Wn 2 rfl (Nx (Rt (E.blkR (E.thenR (E.thenR (E.blkR (E.thenR (E.retG1 rfl rfl ?_))))))))))
   exact⟨by rw[orL_skip xs k hz,List.drop_eq_getElem_cons (by omega),orL,if_pos (by simpa[List.getD,show k<xs.length by omega]using d)];simp[List.getD,show k<xs.length by omega],hww⟩
  refine Cn rfl (dF d) (WC.skip (E.blkN (E.thenN (WC.region (Wa (.add rfl rfl (by omega)) rfl (Wn 1 rfl (W.nil (E.again (k+1) (.of rfl) ?_ ?_))))))))
  ·exact⟨by omega,hww,fun j hj=>by rcases Nat.lt_or_ge j k with h|h;exact hz j h;rw[show j=k by omega];exact Classical.not_not.1 d,e,by have:=i;omega⟩
  first|omega|(simp only[];omega)
 refine Cn rfl (dF f) (WC.exit (E.thenX (E.thenX (E.blkH (E.thenN (Sr (Wn 2 rfl (Nx (Rt (E.retG1 rfl rfl ?_))))))))))
 exact⟨by rw[orL_skip xs k hz,List.drop_of_length_le (by omega)];rfl,hww⟩

def ordA (x y:Asp.Ad):Int:=orL [cmpI x.e.c y.e.c,cmpI x.e.f y.e.f]

theorem ads1_ok (x y:Asp.Ad)(w:World):Calls prog 236 #[.agg (adV x).toArray,.agg (adV y).toArray] w fun r w'=>r= .returned (.int .i64 (ordA x y))/\Le w w'/\w.drawn<=w'.drawn:=by
 refine enter func236 rfl rfl (Sr (W.ef rfl rfl rfl (Ef.boxAD rfl fun A C Q (D:Blk C A 140 (adV x).toArray) F R=>(W.ef rfl rfl rfl (Ef.boxAD rfl fun H I S (J:Blk I H 140 (adV y).toArray) i T=>(Wn 1 rfl (Nx (Sq ?_))))))))
 refine WC.drawD [0,1,2,3,4,5,7,8,9,10,11,12,6,13,14,15,16] mixed (by kernel_rfl) fun K b U=>(Ga rfl (.field0 fa140_0 rfl) (Ga rfl (.field0 fa81_2 rfl) ?_))
 have j:=(D.le (i.trans b))
 refine Gd rfl (.loadB (v:= .int .i64 (x.e.c)) na3 rfl j rfl) (Ga rfl (.field0 fa140_0 rfl) (Ga rfl (.field0 fa81_2 rfl) ?_))
 have k:=(J.le b)
 refine Gd rfl (.loadB (v:= .int .i64 (y.e.c)) na3 rfl k rfl) (Ga rfl (.field0 fa140_0 rfl) (Ga rfl (.field0 fa81_0 rfl) (Gd rfl (.loadB (v:= .int .i64 (x.e.f)) na3 rfl j rfl) (Ga rfl (.field0 fa140_0 rfl) (Ga rfl (.field0 fa81_0 rfl) ?_)))))
 refine Gd rfl (.loadB (v:= .int .i64 (y.e.f)) na3 rfl k rfl) (G.ef rfl rfl rfl rfl rfl (Ef.call go212 rfl rfl (compare3_ok x.e.c y.e.c K) ?_))
 rintro _ L ⟨rfl,l⟩;have m:=Le.of_eq l;have V:=congrArg World.drawn l
 refine⟨_,rfl,?_⟩
 refine⟨fun _=>m,?_⟩
 refine G.ef rfl rfl rfl rfl rfl (Ef.call go212 rfl rfl (compare3_ok x.e.f y.e.f L) ?_)
 rintro _ N ⟨rfl,n⟩;have o:=Le.of_eq n;have X:=congrArg World.drawn n
 refine⟨_,rfl,?_⟩
 refine⟨fun _=>o,?_⟩
 refine G.ef rfl rfl rfl rfl rfl (Ef.buildSliceVD (len:=2) [_,_] underlying23 el3 rfl (by simp[Value.cells]) rfl (by decide) (by decide) ?_)
 intro s d O h t Y
 refine⟨fun _=>t,?_⟩
 have h:Blk d s 3 (([(cmpI x.e.c y.e.c),(cmpI x.e.f y.e.f)]).map iv).flatten.toArray:=h
 have P:OVec d N.heap.size 3 iv 1 (some ⟨s,0,none⟩) 2 2 ([(cmpI x.e.c y.e.c),(cmpI x.e.f y.e.f)]):=h.ovec O iv_row rfl rfl (by decide)
 refine G.ef rfl rfl rfl rfl rfl (Ef.call go219 rfl rfl (or3_ok d P.vec (by decide)) ?_)
 rintro _ Z ⟨rfl,u⟩;have z:=Le.of_eq u;have aa:=congrArg World.drawn u
 refine⟨_,rfl,?_⟩
 refine⟨fun _=>z,?_⟩
 refine Gn 1 rfl (G.nil (E.thenN (Rt (E.retG1 rfl rfl ?_))))
 exact⟨rfl,((((((((Le.refl w).trans F).trans i).trans b).trans m).trans o).trans t).trans z),by omega⟩

open Go.Sort Go.Bsp in
theorem ltA (x y:Asp.Ad):ltOf ordA x y=true↔adLt x y:=by
  unfold ltOf ordA adLt sdLt sdOf
  simp only[decide_eq_true_eq,cmpI,orL]
  by_cases h:x.e.c<y.e.c
  · simp[h]
  · by_cases j:y.e.c<x.e.c
    · simp[h,j];omega
    · have b:x.e.c=y.e.c:=by omega
      by_cases d:x.e.f<y.e.f
      · simp[b,d]
      · by_cases i:y.e.f<x.e.f
        · simp[b,d,i]
        · simp[b,d,i]
open Go.Sort Go.Bsp in
theorem swoA:SWO (ltOf ordA) where
  irrefl x:=by cases h:ltOf ordA x x;rfl;exact absurd ((ltA x x).1 h) (fun h=>sdLt_irr h)
  trans x y z b c:=by
    rw[ltA]at*
    unfold adLt sdLt at*
    omega
  ntrans x y z b c:=by
    cases h:ltOf ordA x z
    · rfl
    · have d:¬adLt x y:=fun hh=>by rw[(ltA x y).2 hh]at b;cases b
      have e:¬adLt y z:=fun hh=>by rw[(ltA y z).2 hh]at c;cases c
      rw[ltA]at h
      unfold adLt sdLt at*
      omega
instance adInh : Inhabited Asp.Ad := ⟨noAd⟩
open Go.Sort Go.Bsp Go.Shelf in
theorem sortad_ok {base:Nat}{A:Option Addr}{n c:Nat}{xs:List Asp.Ad}(w:World)(hO:OVec w base 140 adV 13 A n c xs)(hn:n<=1000000):Calls prog 235 #[.slice A n c,.func (.func 236) #[] #[]] w fun r w'=>∃zs,r= .returned (.tuple #[])/\zs.Perm xs/\zs.Pairwise (fun a b=>¬adLt b a)/\OVec w' base 140 adV 13 A n c zs/\Ch w w' (rowOf A c):=by
  by_cases f:n=0
  · subst f
    have h:=AnyF.slices_SortFunc_none Tryz.sortF A c (.func (.func 236) #[] #[]) w
    change Calls prog 235 _ _ _ at h
    refine Calls.mono h ?_
    rintro r w' ⟨rfl,rfl⟩
    have hx:xs=[]:=List.length_eq_zero_iff.1 hO.1
    subst hx
    exact⟨[],rfl,List.Perm.refl _,List.Pairwise.nil,hO,Ch.refl _ _⟩
  · obtain⟨g,rfl,hb,hlt,hrow⟩:=hO.2.lit (by omega)
    have hl:xs.toArray.size=n:=by simpa using hO.1
    have hcmp:CmpLays prog 236 #[] adV 13 ordA g 0 xs.toArray.size w:=fun m os dk hs x y=>by
      refine Calls.mono (ads1_ok x y _) ?_
      rintro r w' ⟨rfl,d,e⟩
      exact⟨rfl,grown_of_le d e⟩
    have eg:∀args w,(callFunc 236 args).run prog w= .ok (.enter 236 args) w:=enters_of func236 (by kernel_rfl) rfl
    have h:=AnyQ.slices_SortFunc Tryz.sortF 13 Tryz.isAgg140 Tryz.sizeOf140 adV (fun x=>adV_row.len x) (fun x v hv=>adV_row.one x v hv) ordA swoA 236 #[] g 0 c xs.toArray w eg hcmp (holdsK_of adV_row hO (by omega)) hlt (by rw[hl];omega)
    change Calls prog 235 _ _ _ at h
    rw[hl]at h
    refine Calls.mono h ?_
    rintro r w' ⟨rfl,d',q,os,hp,hs,hw⟩
    have hd:d'.size=n:=by rw[hp.1,hl]
    obtain⟨d,e⟩:=ofSortK adV_row hO (by omega) hd hw
    refine⟨d'.toList,rfl,?_,?_,d,by rw[hrow];exact e⟩
    · have:=hp.2.2
      rw[show d'.extract 0 n=d' by rw[<-hd];simp,show xs.toArray.extract 0 n=xs.toArray by rw[<-hl];simp]at this
      simpa using this
    · rw[List.pairwise_iff_getElem]
      intro i j hi hj hij hh
      have k:i<d'.size:=by simpa using hi
      have l:j<d'.size:=by simpa using hj
      have:=hs i j (Nat.zero_le _) hij (by omega)
      rw[getElem!_pos d' j l,getElem!_pos d' i k]at this
      rw[(ltA _ _).2 (by simpa using hh)]at this
      cases this
end Go.Proofs.YtocheaahlpiajaaGreatDoor

namespace Go.Proofs.YtocheaahlpiajaaGreatDoor
open Tryz
open Go Go.Sx Go.Hsp Go.Num Go.Osp Go.Gsp Go.Asp Go.Bsp
set_option maxRecDepth 20000
def noSd:Sd:=⟨0,0⟩
def Sdix (k:Sd)(j:Nat):Int:=if j=0 then k.c else k.f
def sdV (k:Sd):List Value:=[.int .i64 k.c,.int .i64 k.f]
theorem sdV_row:RowF sdV 2:=⟨fun _=>rfl,fun x v hv=>by simp[sdV]at hv;rcases hv with rfl|rfl<;>rfl,by decide⟩
theorem sd_ixv (k:Sd){j:Nat}(h:j<2):(sdV k).toArray[j]? =some (.int .i64 (Sdix k j)):=by
  have:j=0\/j=1:=by omega
  rcases this with rfl|rfl<;>rfl
def sdf (k:Sd):Value:= .agg (sdV k).toArray
def adf (a:Asp.Ad):Value:= .agg (adV a).toArray
structure Wh where
  A:Option Addr
  n:Nat
  c:Nat
  xs:List Int
def noWh:Wh:=⟨none,0,0,[]⟩
def whf (e:Wh):Value:= .slice e.A e.n e.c
def Wh.has (e:Wh)(k:Nat):Prop:=0<e.n/\blkOf e.A=some k
abbrev AM:=List (Nat×Sd×Asp.Ad)
abbrev WM:=List (Nat×Sd×Wh)
theorem eqv_sd {d:Nat}(a b:Sd):Eqv prog (d+2) 250 (sdf a) (sdf b) (decide (a=b)):=by
  have h:=Eqv.arr (P:=prog) (d:=d+1) (xs:=(sdV a).toArray) (ys:=(sdV b).toArray) (fun i=>decide (Sdix a i=Sdix b i)) (fun i=> .int .i64 (Sdix a i)) (fun i=> .int .i64 (Sdix b i)) underlying250 sz3 (fun i hi w=>run_part1 na3 (by rw[Nat.mul_one];exact sd_ixv a hi) w) (fun i hi w=>run_part1 na3 (by rw[Nat.mul_one];exact sd_ixv b hi) w) (fun i hi=>Eqv.int (P:=prog) _ _ underlying3)
  have e:((List.range 2).all fun i=>decide (Sdix a i=Sdix b i))=decide (a=b):=by
    obtain⟨c,f⟩:=a
    obtain⟨j,k⟩:=b
    rw[Bool.eq_iff_iff]
    simp[List.range_succ,Sdix]
  rw[e]at h
  exact h
theorem check_sd (b:Bool)(k:Sd)(w:World):∀m:Nat,(Instr.checkKey b (m+2) 250 (sdf k)).run prog w= .ok () w:=by
  intro m
  have hi:∀(v:Int) (w:World),(Instr.checkKey b (m+1) 3 (.int .i64 v)).run prog w= .ok () w:=fun v w=>by unfold Instr.checkKey;simp[run_underlying underlying3]
  have d:∀w:World,(part 3 (sdV k).toArray 0).run prog w= .ok (.int .i64 k.c) w:=run_part1 na3 rfl
  have e:∀w:World,(part 3 (sdV k).toArray 1).run prog w= .ok (.int .i64 k.f) w:=run_part1 na3 rfl
  have hs:∀w:World,(Go.sizeOf 3).run prog w= .ok 1 w:=sz3.run
  unfold Instr.checkKey
  simp only[Sem.run_bind,run_underlying underlying250,Result.andThen_ok,sdf]
  simp[Std.Legacy.Range.forIn_eq_forIn_range',List.range',d,e,hi,hs]
theorem KeyG.arr {κ:Type}[DecidableEq κ]{P:Program}{kf:κ->Value}{kt len e:Nat}(hu:P.underlying kt=some (.array len e))(hc:∀(b:Bool) (key:κ) (w:World),(Instr.checkKey b 10000 kt (kf key)).run P w= .ok () w)(ha:∀k,∃cs,kf k= .agg cs)(he:∀a b,Eqv P 10000 kt (kf a) (kf b) (decide (a=b))):KeyG P kt kf:=by
  refine⟨hc,fun key l w=>?_⟩
  have hs:∀(l:List (Nat×κ×Value)) (i:Nat) (w:World),(Instr.findAsking kt (kf key) (l.map (entG kf id)) i).run P w= .ok (findG key l i) w:=by
    intro l
    induction l with
    |nil=>intro i w;simp[Instr.findAsking,findG]
    |cons x l ih=>
      intro i w
      simp only[List.map_cons,Instr.findAsking,Sem.run_bind,Op.equal,Op.maxDepth,entG,he key x.2.1 w,Result.andThen_ok,findG]
      by_cases hk:key=x.2.1
      · simp[hk]
      · simp only[hk,decide_false,Bool.false_eq_true,if_false]
        exact ih (i+1) w
  cases l with
  |nil=>simp[Instr.findKey,run_underlying hu,Instr.findNow,findG]
  |cons x l=>
    have:=hs (x::l) 0 w
    obtain⟨cs,hk⟩:=ha key
    simp only[Instr.findKey,Sem.run_bind,run_underlying hu,Result.andThen_ok,List.map_cons,Instr.findNow,entG,Instr.sameNow]
    exact this
theorem ksd:KeyG prog 250 sdf:=KeyG.arr underlying250 (fun b k w=>check_sd b k w 9998) (fun k=>⟨_,rfl⟩) (fun a b=>eqv_sd (d:=9998) a b)
theorem stay_sd {k:Sd}{P:Program}(w:World):(Instr.keyThatStays (sdf k) (sdf k)).run P w= .ok (sdf k) w:=by
  have:Instr.sameBits 10000 (sdf k) (sdf k)=true:=by simp[sdf,sdV,Instr.sameBits]
  unfold Instr.keyThatStays
  rw[if_pos this]
  rfl
structure BookL (w:World)(gp gn gw:Nat)(A:Option Addr)(c ca cw:Nat)(keys:List Nat)(la:AM)(lw:WM)(ht:Int):Prop where
  hp:Blk w gp 246 #[.slice A keys.length c,.map (some gn),.map (some gw),.int .i64 ht]
  hK:OVec w 0 43 pv1 1 A keys.length c keys
  hN:MapG w sdf adf gn la ca
  hW:MapG w sdf whf gw lw cw
  hV:∀k v,getG k lw=some v->Vec w iv 1 v.A v.n v.xs
  pn:gp≠gn
  pw:gp≠gw
  nw:gn≠gw
  kp:rowOf A c≠some gp
  kn:rowOf A c≠some gn
  kw:rowOf A c≠some gw
  vp:∀k v,getG k lw=some v->∀q,v.has q->¬(q=gp\/q=gn\/q=gw)
def BF (gp gn gw:Nat)(A:Option Addr)(c:Nat)(lw:WM)(k:Nat):Prop:=k=gp\/k=gn\/k=gw\/rowOf A c=some k\/∃s v,getG s lw=some v/\v.has k
theorem getD_mem' {α:Type}{l:List α}{z:α}{k:Nat}(h:k<l.length):l.getD k z∈l:=by
  have:l.getD k z=l[k]:=by simp[List.getD,h]
  rw[this];exact List.getElem_mem h
theorem getG_of_mem {κ β:Type}[DecidableEq κ]{l:List (Nat×κ×β)}{ck:Nat}(hw:WfG l ck){x:Nat×κ×β}(hx:x∈l):getG x.2.1 l=some x.2.2:=by
  cases h:getG x.2.1 l with
  |none=>exact absurd rfl (getG_none.1 h x hx)
  |some v=>
    obtain⟨b,hb⟩:=getG_mem h
    have:=nodup_inj (fun x:Nat×κ×β=>x.2.1) l hw.keys hx hb rfl
    rw[this]
theorem getG_put1 {κ β:Type}[DecidableEq κ]{l:List (Nat×κ×β)}{key:κ}{u v:β}(h:getG key l=some v)(k:κ):getG k (l.map fun y=>if y.2.1=key then(y.1,key,u)else y)=if k=key then some u else getG k l:=getG_set ⟨v,h⟩
theorem getG_put0 {κ β:Type}[DecidableEq κ]{l:List (Nat×κ×β)}{key:κ}{u z:β}{b:Nat}(h:getG key l=none)(k:κ):getG k ((l++[(b,key,z)]).map fun y=>if y.2.1=key then(y.1,key,u)else y)=if k=key then some u else getG k l:=by
  rw[getG_set ⟨z,by rw[getG_push h,if_pos rfl]⟩]
  by_cases e:k=key
  · rw[if_pos e,if_pos e]
  · rw[if_neg e,if_neg e,getG_push h,if_neg e]
theorem delf2_ok {base n c:Nat}{A:Option Addr}{xs:List Int}{F:Nat}{caps:Array Value}(h:Int)(hgo:IsGo prog F)(w:World)(hO:OVec w base 3 iv 1 A n c xs)(hn:n<=1000000)(hf:∀(i:Int) (w1:World),Ch w w1 (rowOf A c)->Calls prog F (#[.int .i64 i]++caps) w1 fun r w2=>r= .returned (.bool (decide (i<=h-100)))/\Le w1 w2):Calls prog 155 #[.slice A n c,.func (.func F) #[] caps] w fun r w'=>r= .returned (.slice A (lateB xs h).length c)/\OVec w' base 3 iv 1 A (lateB xs h).length c (lateB xs h)/\Ch w w' (rowOf A c):=delf_ok (fun i=>decide (i<=h-100)) hgo w hO hn hf
def badX (e:Gsp.Edge)(x:Nat×Sd×Asp.Ad):Bool:=badB e x.2.1 x.2.2
def takeR (keys:List Nat)(la:AM)(lw:WM)(ht:Int)(a:Asp.Ad)(h:Int):Int:=
  if mayA a.e a.no=false\/(keys.length:Int)<=a.e.f\/inB h ht 1048576=false then 1
  else if verifyA (keys.getD a.e.f.toNat 0) a=false then 7
  else if la.any (badX a.e)=true then 4
  else if a.no<=noOf (getG (sdOf a) la)then 24
  else if 4<=(lateB (((getG (sdOf a) lw).map (·.xs)).getD []) h).length then 20
  else 0
section
variable {w w':World}{gp gn gw c ca cw ca' cw':Nat}{A:Option Addr}{keys:List Nat}{la la':AM}{lw lw':WM}{ht ht':Int}
theorem BookL.same (h:BookL w gp gn gw A c ca cw keys la lw ht)(hc:ChP w w' (fun k=>k=gp\/k=gn\/k=gw))(hp:Blk w' gp 246 #[.slice A keys.length c,.map (some gn),.map (some gw),.int .i64 ht])(hN:MapG w' sdf adf gn la ca)(hW:MapG w' sdf whf gw lw cw):BookL w' gp gn gw A c ca cw keys la lw ht:=
  ⟨hp,h.hK.chP hc (fun k hk hF=>Or.elim hF (fun e=>h.kp (e▸hk)) (fun hF=>Or.elim hF (fun e=>h.kn (e▸hk)) (fun e=>h.kw (e▸hk)))),hN,hW,fun k v hv=>(h.hV k v hv).chP hc (fun g hg hm _=>h.vp k v hv g ⟨hm,hg⟩),h.pn,h.pw,h.nw,h.kp,h.kn,h.kw,h.vp⟩
theorem rowOf_blk {A:Option Addr}{c q:Nat}(h:blkOf A=some q)(hc:0<c):rowOf A c=some q:=by
  unfold rowOf
  rw[if_neg (by omega)]
  exact h
theorem BookL.put (h:BookL w gp gn gw A c ca cw keys la lw ht)(hc:ChP w w' (fun k=>k=gp\/k=gn\/k=gw))(hp:Blk w' gp 246 #[.slice A keys.length c,.map (some gn),.map (some gw),.int .i64 ht'])(hN:MapG w' sdf adf gn la' ca')(hW:MapG w' sdf whf gw lw' cw'){v:Wh}{s:Sd}
    (hv:OVec w' w.heap.size 3 iv 1 v.A v.n v.c v.xs)(hg:∀k,getG k lw'=if k=s then some v else getG k lw):BookL w' gp gn gw A c ca' cw' keys la' lw' ht'/\∀q,v.has q->w.heap.size<=q:=by
  have hb:∀q,v.has q->w.heap.size<=q:=fun q hq=>(hv.row (rowOf_blk hq.2 (Nat.lt_of_lt_of_le hq.1 hv.cap.1))).1
  have b:=h.hp.lt
  have d:=h.hN.lt
  have f:=h.hW.lt
  refine⟨⟨hp,h.hK.chP hc (fun k hk hF=>Or.elim hF (fun e=>h.kp (e▸hk)) (fun hF=>Or.elim hF (fun e=>h.kn (e▸hk)) (fun e=>h.kw (e▸hk)))),hN,hW,fun k u hu=>?_,h.pn,h.pw,h.nw,h.kp,h.kn,h.kw,fun k u hu q hq=>?_⟩,hb⟩
  · rw[hg]at hu
    split at hu
    · cases hu;exact hv.vec
    · exact(h.hV k u hu).chP hc (fun g hg hm _=>h.vp k u hu g ⟨hm,hg⟩)
  · rw[hg]at hu
    split at hu
    · cases hu
      have:=hb q hq
      rintro(rfl|rfl|rfl)<;>omega
    · exact h.vp k u hu q hq
theorem BookL.chP {F:Nat->Prop}(h:BookL w gp gn gw A c ca cw keys la lw ht)(hc:ChP w w' F)(hne:∀k,BF gp gn gw A c lw k->¬F k):BookL w' gp gn gw A c ca cw keys la lw ht:=
  ⟨h.hp.chP hc (hne _ (.inl rfl)),h.hK.chP hc (fun k hk=>hne _ (.inr (.inr (.inr (.inl hk))))),h.hN.chP hc (hne _ (.inr (.inl rfl))),h.hW.chP hc (hne _ (.inr (.inr (.inl rfl)))),fun k v hv=>(h.hV k v hv).chP hc (fun g hg hm _=>hne _ (.inr (.inr (.inr (.inr ⟨k,v,hv,hm,hg⟩))))),h.pn,h.pw,h.nw,h.kp,h.kn,h.kw,h.vp⟩
theorem BookL.lt (h:BookL w gp gn gw A c ca cw keys la lw ht){k:Nat}(hk:BF gp gn gw A c lw k):k<w.heap.size:=by
  rcases hk with rfl|rfl|rfl|hk|⟨s,v,hv,hk⟩
  · exact h.hp.lt
  · exact h.hN.lt
  · exact h.hW.lt
  · exact(h.hK.row hk).2
  · exact(h.hV s v hv).blk_lt iv_row hk.1 hk.2
end
theorem bnew_ok {Ak:Option Addr}{nk ck:Nat}{keys:List Nat}(w:World)(hV:Vec w pv1 1 Ak nk keys):Calls prog 63 #[.slice Ak nk ck] w fun r w'=>(12<nk/\r= .returned (.pointer none)/\Le w w')\/(nk<=12/\∃gp gn gw A c,r= .returned (.pointer (some ⟨gp,0,none⟩))/\BookL w' gp gn gw A c 0 0 keys [] [] 0/\(∀k,BF gp gn gw A c [] k->w.heap.size<=k)/\Le w w'):=by
 refine enter func63 rfl rfl ?_
 have d:=Le.refl w
 refine Sr (Wn 1 rfl (Nx (Sq (Sr (Wn 1 rfl (Wr (.len underlying39 rfl) rfl (Wn 1 rfl (Nx ?_))))))))
 by_cases o:12<((nk:Nat):Int)
 ·refine Cy rfl (dT o) (Sr (Wn 1 rfl (Nx (Rt (E.thenR (E.retG1 rfl rfl ?_))))))
  exact .inl ⟨by omega,rfl,d⟩
 refine Cn rfl (dF o) (Sn (Sr (Wn 1 rfl (W.cl go151 rfl rfl (gpclone_ok w (hV.le d) (by omega)) ?_))))
 rintro _ Q ⟨t,u,rfl,f,F⟩
 have x:=d.trans F
 refine W.ef rfl rfl rfl (Ef.makeMapG sdf adf fun h R H m i=>?_)
 have y:=x.trans i
 refine W.ef rfl rfl rfl (Ef.makeMapG sdf whf fun j S I z b=>?_)
 have C:=y.trans b
 refine Wa (.buildP [.slice t nk u,.map (some h),.map (some j),.int .i64 (0)] pl246 z246 rfl rfl) rfl (W.ef rfl rfl rfl (Ef.boxA rfl fun n J K (L:Blk J n 246 #[.slice t nk u,.map (some h),.map (some j),.int .i64 (0)]) l=>?_))
 have N:=C.trans l
 refine Wn 1 rfl (Nx (Rt ?_))
 have D:=(f.le (i.trans (b.trans l)))
 have O:=(m.le (b.trans l))
 have P:=(z.le l)
 refine E.retG1 rfl rfl ?_
 have hnl:=hV.1;subst hnl;exact .inr ⟨by omega,_,_,_,_,_,rfl,⟨L,(D.mono (Nat.zero_le _)),O,P,(fun k v hv=>by cases hv),(show n≠h from by have:=m.lt;have:=b.size;omega),(show n≠j from by have:=z.lt;omega),(show h≠j from by have:=m.lt;omega),(f.rn (by have:=i.size;have:=b.size;omega)),(f.rn (by omega)),(f.rn (by have:=i.size;omega)),(fun k v hv=>by cases hv)⟩,(fun k hk=>Or.elim hk (fun e=>e▸(Nat.le_trans C.size K)) (fun hk=>Or.elim hk (fun e=>e▸(Nat.le_trans x.size H)) (fun hk=>Or.elim hk (fun e=>e▸(Nat.le_trans y.size I)) (fun hk=>Or.elim hk (fun hk=>((D.mono d.size).row hk).1) (fun⟨s,v,hv,hk⟩=>by cases hv))))),N⟩

theorem bget_ok {gp gn gw c ca cw:Nat}{A:Option Addr}{keys:List Nat}{la:AM}{lw:WM}{ht:Int}(ch fr:Int)(w:World)(hL:BookL w gp gn gw A c ca cw keys la lw ht):Calls prog 69 #[.pointer (some ⟨gp,0,none⟩),.int .i64 (ch),.int .i64 (fr)] w fun r w'=>r= .returned (.tuple #[.agg (adV ((getG (Bsp.Sd.mk ch fr) la).getD noAd)).toArray,.bool (getG (Bsp.Sd.mk ch fr) la).isSome])/\Le w w':=by
 refine enter func69 rfl rfl ?_
 have h:=Le.refl w
 refine Sr (W.ef rfl rfl rfl (Ef.allocA z140 fun i z n (f:Blk z i 140 (adV noAd).toArray) C=>?_))
 have b:=h.trans C
 refine Wn 1 rfl (Nx (Sr (Wn 1 rfl (Wa (.nilCheck rfl) rfl (Wa (.field0 fa246_1 rfl) rfl (Wr (.loadB (v:= .map (some gn)) na243 rfl (hL.hp.le b) rfl) rfl (Wn 2 rfl (Wa (.buildA (cells:=(sdV (Bsp.Sd.mk ch fr)).toArray) underlying250 sz3 z250 rfl rfl) rfl ?_))))))))
 rcases optG (getG (Bsp.Sd.mk ch fr) la)with d|⟨e,d⟩
 ·refine Wr (.as (.lookup2 (key:=(Bsp.Sd.mk ch fr)) underlying243 ksd z140 rfl rfl (hL.hN.le b)) (by rw[d]<;>rfl)) rfl ?_
  refine Wn 1 rfl (Wa (.extract (v:= .agg (adV noAd).toArray) rfl rfl) rfl (Wn 1 rfl (W.ef rfl rfl rfl (Ef.allocA z140 fun o D F (H:Blk D o 140 (adV noAd).toArray) s=>(W.ef0 rfl rfl (Ef.storeAll sz140 (by rfl) rfl rfl H (by simp only[List.size_toArray,adV_row.len]) (adV_row.one noAd) ?_))))))
  intro I j t
  have j:Blk I o 140 (adV noAd).toArray:=j
  refine Wn 1 rfl (Nx (Sr (Wr (.loadAll ag140 (by rfl) rfl j) rfl ?_)))
  refine Wn 1 rfl ?_
  have J:=((f.le s).cn t (by have:=f.lt;omega))
  refine W.ef0 rfl rfl (Ef.storeAll sz140 (by rfl) rfl rfl J (by simp only[List.size_toArray,adV_row.len]) (adV_row.one noAd) ?_)
  intro K k L
  have k:Blk K i 140 (adV noAd).toArray:=k
  have N:=((b.trans s).tb t b F).tb L h n
  refine Wn 1 rfl (Nx (Rt (E.retG2 rfl (resA rfl k ag140 (by rfl)) rfl ?_)))
  exact⟨by rw[d];rfl,N⟩
 refine Wr (.as (.lookup2 (key:=(Bsp.Sd.mk ch fr)) underlying243 ksd z140 rfl rfl (hL.hN.le b)) (by rw[d]<;>rfl)) rfl ?_
 refine Wn 1 rfl (Wa (.extract (v:= .agg (adV e).toArray) rfl rfl) rfl (Wn 1 rfl (W.ef rfl rfl rfl (Ef.allocA z140 fun u O P (Q:Blk O u 140 (adV noAd).toArray) x=>(W.ef0 rfl rfl (Ef.storeAll sz140 (by rfl) rfl rfl Q (by simp only[List.size_toArray,adV_row.len]) (adV_row.one e) ?_))))))
 intro R l y
 have l:Blk R u 140 (adV e).toArray:=l
 refine Wn 1 rfl (Nx (Sr (Wr (.loadAll ag140 (by rfl) rfl l) rfl ?_)))
 refine Wn 1 rfl ?_
 have S:=((f.le x).cn y (by have:=f.lt;omega))
 refine W.ef0 rfl rfl (Ef.storeAll sz140 (by rfl) rfl rfl S (by simp only[List.size_toArray,adV_row.len]) (adV_row.one e) ?_)
 intro T m U
 have m:Blk T i 140 (adV e).toArray:=m
 have V:=((b.trans x).tb y b P).tb U h n
 refine Wn 1 rfl (Nx (Rt (E.retG2 rfl (resA rfl m ag140 (by rfl)) rfl ?_)))
 exact⟨by rw[d];rfl,V⟩

theorem bads_ok {gp gn gw c ca cw:Nat}{A:Option Addr}{keys:List Nat}{la:AM}{lw:WM}{ht:Int}(w:World)(hL:BookL w gp gn gw A c ca cw keys la lw ht)(hl:la.length<=1000):Calls prog 158 #[.pointer (some ⟨gp,0,none⟩)] w fun r w'=>∃(A':Option Addr) (c':Nat) (zs:List Asp.Ad),r= .returned (.slice A' la.length c')/\zs.Perm (la.map fun x=>x.2.2)/\zs.Pairwise (fun a b=>¬adLt b a)/\OVec w' w.heap.size 140 adV 13 A' la.length c' zs/\Le w w':=by
 refine enter func158 rfl rfl ?_
 have o:=Le.refl w
 refine Sr (Wn 1 rfl (Nx (Sr (Wn 1 rfl (Nx (Sq (Sr (Wn 1 rfl (Wa (.nilCheck rfl) rfl (Wa (.field0 fa246_1 rfl) rfl (Wr (.loadB (v:= .map (some gn)) na243 rfl (hL.hp.le o) rfl) rfl (W.ef rfl rfl rfl (Ef.rangeG underlying243 rfl (hL.hN.le o) ?_)))))))))))))
 intro I h Q y R
 have s:=o.trans R
 refine Nx (WC.block (WC.loop (ι:=(Array Nat)×Nat×(Option Addr)×Nat×(List Asp.Ad)) (fun⟨seen,k,Ao,co,out⟩=>[(3,.slice Ao k co),(10,.pointer (some ⟨I,0,none⟩))]) (fun⟨seen,k,Ao,co,out⟩ f=>(k+(unsG la seen).length=la.length)/\((out++(unsG la seen).map (fun x=>x.2.2)).Perm (la.map fun x=>x.2.2))/\Le w f/\h.heap.size<=f.heap.size/\OVec f h.heap.size 140 adV 13 Ao k co out/\ItG f I gn ca seen) (fun⟨seen,k,Ao,co,out⟩=>(unsG la seen).length) (#[],0,none,0,[]) ?_ ?_ ?_))
 ·exact .of rfl
 ·exact⟨by rw[unsG_nil];omega,by rw[unsG_nil];exact List.Perm.refl _,s,Nat.le_refl _,(OVec.nil h h.heap.size 140 adV 13 none),y⟩
 rintro⟨seen,k,Ao,co,out⟩ f ⟨hkl,hpm,t,S,i,T⟩
 have U:h.heap.size<=f.heap.size:=by omega
 refine Sr (W.ef rfl rfl rfl (Ef.nextG rfl (hL.hN.le t) T ?_ ?_))
 ·intro V
  refine Wn 1 rfl (Nx (Sq (WC.condF rfl (WC.exit (E.thenX (E.thenX (E.blkH (E.thenN (Sr (Wn 1 rfl (W.cl go235 rfl rfl (sortad_ok f i (by omega)) ?_)))))))))))
  rintro _ ak ⟨al,rfl,X,Y,Z,aa⟩
  have L2:=t.then_ aa (fun q hq=>Nat.le_trans s.size (i.row hq).1)
  refine Nx (Sr (Wn 2 rfl (Nx (Rt (E.retG1 rfl rfl ?_)))))
  have huz:=V;rw[huz]at hpm hkl;simp only[List.map_nil,List.append_nil,List.length_nil,Nat.add_zero]at hpm hkl;exact⟨_,_,_,by rw[<-hkl],X.trans hpm,Y,(Z.mono s.size).cast hkl rfl,L2⟩
 intro d am J z j
 have C:=t.tb j o Q
 have K:=unsG_push (hL.hN.le t).2 J
 have ab:=K.length_eq
 rw[List.length_cons]at ab
 refine Wn 1 rfl (Nx (Sq (WC.condT rfl (Sn (WC.block (Sr (W.ef rfl rfl rfl (Ef.entryG (e:=d) rfl (hL.hN.le C) z (unsG_mem J) (Wa (.extract (v:= .agg (adV d.2.2).toArray) rfl rfl) rfl (W.ef rfl rfl rfl (Ef.allocA z140 fun L ac ad (ae:Blk ac L 140 (adV noAd).toArray) l=>(W.ef0 rfl rfl ?_))))))))))))
 refine Ef.storeAll sz140 (by rfl) rfl rfl ae (by simp only[List.size_toArray,adV_row.len]) (adV_row.one d.2.2) ?_
 intro N D m
 have D:Blk N L 140 (adV d.2.2).toArray:=D
 refine Nx (WC.region (Wn 1 rfl (Wr (.loadAll ag140 (by rfl) rfl D) rfl ?_)))
 refine W.ef rfl rfl rfl (Ef.buildSliceV (len:=1) [_] underlying132 el140 rfl (by simp[Value.cells,adV_row.len]) rfl (by decide) (by decide) ?_)
 intro O P af u n
 have u:Blk P O 140 (([d.2.2]).map adV).flatten.toArray:=u
 have an:OVec P N.heap.size 140 adV 13 (some ⟨O,0,none⟩) 1 1 ([d.2.2]):=u.ovec af adV_row rfl rfl (by decide)
 have F:=((((i.cb j (i.rl (by have:=y.lt;omega))).le l).cb m (i.rn (by have:=j.size;omega))).le n)
 refine W.ef rfl rfl rfl (Ef.vpush (a:=d.2.2) underlying132 el140 underlying132 adV_row rfl F rfl u (by omega) (by unfold maxLen;omega) (by have:=U;have:=j.size;have:=l.size;have:=m.size;have:=n.size;omega) ?_)
 intro ah ai ao aj H ap
 refine Wn 1 rfl (W.nil (E.blkN ?_))
 have f9:=((((z.le l).cn m (by have:=z.lt;omega)).le n).ch H (F.rl (by have:=y.lt;omega)))
 refine E.again ((seen.push d.1),k+1,ah,ai,(out++[d.2.2])) (.of rfl) ?_ ?_
 ·exact⟨by omega,by rw[List.append_assoc];exact((List.Perm.append_left out (by have hq:=K.map (fun x=>x.2.2);rw[List.map_cons]at hq;exact hq)).symm).trans hpm,((((C.trans l).tb m C ad).trans n).then_ H (fun q hq=>Nat.le_trans s.size (F.row hq).1)),by have:=S;have:=j.size;have:=l.size;have:=m.size;have:=n.size;have:=H.size;omega,aj,f9⟩
 first|omega|(simp only[];omega)

theorem btake_ok {gp gn gw c ca cw:Nat}{A:Option Addr}{keys:List Nat}{la:AM}{lw:WM}{ht:Int}(a:Asp.Ad)(h:Int)(w:World)(hL:BookL w gp gn gw A c ca cw keys la lw ht)(hr:a.sg.r<18446744073709551616)(hkb:∀k∈keys,k<18446744073709551616)(hht:0<=ht)(hkl:keys.length<=1000)(hw4:∀k v,getG k lw=some v->v.xs.length<=4):Calls prog 65 #[.pointer (some ⟨gp,0,none⟩),.agg (adV a).toArray,.int .i64 (h)] w fun r w'=>ChP w w' (fun k=>k=gp\/k=gn\/k=gw)/\((takeR keys la lw ht a h≠0/\r= .returned (.int .i64 (takeR keys la lw ht a h))/\BookL w' gp gn gw A c ca cw keys la lw ht)\/(takeR keys la lw ht a h=0/\r= .returned (.int .i64 0)/\∃ca' cw' la' lw' v,BookL w' gp gn gw A c ca' cw' keys la' lw' h/\(∀k,getG k la'=if k=sdOf a then some a else getG k la)/\v.xs=lateB (((getG (sdOf a) lw).map (·.xs)).getD []) h++[h]/\(∀k,getG k lw'=if k=sdOf a then some v else getG k lw)/\∀q,v.has q->w.heap.size<=q)):=by
 have bZ:=hL.hp;have b0:=hL.hK;have I:=hL.hN;have F:=hL.hW
 refine enter func65 rfl rfl (Sr (W.ef rfl rfl rfl (Ef.boxA rfl fun aI e5 hH (e6:Blk e5 aI 140 (adV a).toArray) C=>(W.ef rfl rfl rfl (Ef.box rfl fun aJ e7 hI (e8:Blk e7 aJ 3 #[.int .i64 (h)]) X=>(Wn 1 rfl (Nx (Sq (Sq ?_)))))))))
 refine WC.draw [0,1,2,3,4,5,6,7,8,9,10,11,12,13,14,15,16,17,18,19,20,21,22,23,24,25,26] mixed (by kernel_rfl) fun w1 Q=>(Ga rfl (.field0 fa140_0 rfl) ?_)
 have f4:=(e6.le (X.trans Q))
 refine Gd rfl (.bpart (edgeV a.e) ag81 rfl (by decide) rfl f4 rfl) (Ga rfl (.field0 fa140_1 rfl) (Gd rfl (.loadB (v:= .int .i64 (a.no)) na3 rfl f4 rfl) (G.ef rfl rfl rfl rfl rfl (Ef.call go152 rfl rfl (amay_ok a.e a.no w1) ?_))))
 rintro _ fa ⟨rfl,K⟩
 refine⟨_,rfl,?_⟩
 refine⟨fun _=>K,?_⟩
 have L5:=((((ChP.refl w (fun k=>k=gp\/k=gn\/k=gw)).le C).le X).le Q).le K
 refine Gn 1 rfl ?_
 by_cases bf:(mayA a.e a.no)=true
 ·refine Ga rfl (.dec (.move rfl) (congrArg not (bf))) (Gag rfl (.field0 fa140_0 rfl) (Gag rfl (.field0 fa81_0 rfl) ?_))
  have f6:=(f4.le K)
  refine Gdg rfl (.loadB (v:= .int .i64 (a.e.f)) na3 rfl f6 rfl) (Gn 1 rfl (Gag rfl (.nilCheck rfl) (Gag rfl (.field0 fa246_0 rfl) ?_)))
  have f7:=(bZ.le (C.trans (X.trans (Q.trans K))))
  refine Gdg rfl (.loadB (v:= .slice A keys.length c) na39 rfl f7 rfl) (Gdg rfl (.len underlying39 rfl) (Gn 2 rfl ?_))
  by_cases bg:((keys.length:Nat):Int)<=a.e.f
  ·refine Ga rfl (.dec (.move rfl) (dT bg)) (Gn 9 rfl (G.nil (E.thenN (WC.condT rfl ?_))))
   have hbad:mayA a.e a.no=false\/(keys.length:Int)<=a.e.f\/inB h ht 1048576=false:=by first|(left;simpa using(by assumption:¬mayA a.e a.no=true))|(right;left;assumption)|(right;right;simpa using(by assumption:¬inB h ht 1048576=true))
   refine Sr (Wn 1 rfl (Nx (Rt (E.thenR ?_))))
   have f8:=(I.le (C.trans (X.trans (Q.trans K))))
   have f9:=(F.le (C.trans (X.trans (Q.trans K))))
   refine E.retG1 rfl rfl ?_
   have b:takeR keys la lw ht a h=1:=(by unfold takeR;rw[if_pos hbad]);exact⟨L5,.inl ⟨by rw[b];decide,by rw[b],hL.same L5 f7 f8 f9⟩⟩
  refine Ga rfl (.dec (.move rfl) (dF bg)) (Gn 1 rfl (Gag rfl (.nilCheck rfl) (Gag rfl (.field0 fa246_3 rfl) (Gdg rfl (.loadB (v:= .int .i64 (ht)) na3 rfl f7 rfl) ?_))))
  have bk:=(e8.le (Q.trans K))
  refine Gdg rfl (.loadB (v:= .int .i64 (h)) na3 rfl bk rfl) (G.efg rfl rfl rfl rfl rfl (rfl) rfl rfl (Ef.buildSliceV (len:=1) [_] underlying23 el3 rfl (by simp[Value.cells]) rfl (by decide) (by decide) ?_))
  intro b1 bE fb bF Y
  refine⟨fun _=>Y,?_⟩
  have bF:Blk bE b1 3 (([h]).map iv).flatten.toArray:=bF
  have fc:OVec bE fa.heap.size 3 iv 1 (some ⟨b1,0,none⟩) 1 1 ([h]):=bF.ovec fb iv_row rfl rfl (by decide)
  refine G.efg rfl rfl rfl rfl rfl (rfl) rfl rfl (Ef.call go153 rfl rfl (withinc1_ok ht 1048576 bE fc.vec) ?_)
  rintro _ hJ ⟨rfl,Z⟩
  refine⟨_,rfl,?_⟩
  refine⟨fun _=>Z,?_⟩
  have bG:=(L5.le Y).le Z
  refine Gn 2 rfl (G.nil (E.thenN ?_))
  by_cases c0:(inB h ht 1048576)=true
  ·refine Cn rfl (congrArg not (c0)) ?_
   have hm:mayA a.e a.no=true:=by assumption
   have hfl:¬(keys.length:Int)<=a.e.f:=by assumption
   have hin:inB h ht 1048576=true:=by assumption
   have hea:=edgeA_T (mayA_T hm).1
   have hh:=inB_T.1 hin
   have hok:¬(mayA a.e a.no=false\/(keys.length:Int)<=a.e.f\/inB h ht 1048576=false):=by rw[hm,hin];simp;omega
   refine Sn (Sq (Sq (WC.draw [0,1,2,3,4,5,6,7,8,9,10,11] mixed (by kernel_rfl) fun w3 d3=>(Gn 1 rfl (Ga rfl (.nilCheck rfl) (Ga rfl (.field0 fa246_0 rfl) ?_))))))
   have bH:=(f7.le (Y.trans (Z.trans d3)))
   refine Gd rfl (.loadB (v:= .slice A keys.length c) na39 rfl bH rfl) (Ga rfl (.field0 fa140_0 rfl) (Ga rfl (.field0 fa81_0 rfl) ?_))
   have bl:=(f6.le (Y.trans (Z.trans d3)))
   refine Gd rfl (.loadB (v:= .int .i64 (a.e.f)) na3 rfl bl rfl) (Ga rfl (.idxS (a.e.f.toNat) underlying39 sz43 rfl rfl (b0.vec.isSome pv1_row (by omega)) (by omega) (by omega)) ?_)
   have bm:=(b0.le (C.trans (X.trans (Q.trans (K.trans (Y.trans (Z.trans d3)))))))
   refine Gd rfl (.vone (v:= .int .u64 ((((keys.getD a.e.f.toNat 0):Nat):Int))) na43 rfl bm.vec pv1_row (getS keys 0 (by omega)) rfl) (Gd rfl (.loadAll ag140 (by rfl) rfl bl) ?_)
   refine G.ef rfl rfl rfl rfl rfl (Ef.call go70 rfl rfl (averify_ok (keys.getD a.e.f.toNat 0) a (hkb _ (getD_mem' (by omega))) hr w3) ?_)
   rintro _ hM ⟨rfl,R⟩
   refine⟨_,rfl,?_⟩
   refine⟨fun _=>R,?_⟩
   have bn:=(bG.le d3).le R
   refine Gn 1 rfl (G.nil (E.thenN ?_))
   by_cases S:(verifyA (keys.getD a.e.f.toNat 0) a)=true
   ·refine Cn rfl (congrArg not (S)) (Sn (Sq (Sr (Wn 1 rfl (Wa (.nilCheck rfl) rfl (Wa (.field0 fa246_1 rfl) rfl ?_))))))
    have bh:=(bH.le R)
    refine Wr (.loadB (v:= .map (some gn)) na243 rfl bh rfl) rfl ?_
    have bI:=(I.le (C.trans (X.trans (Q.trans (K.trans (Y.trans (Z.trans (d3.trans R))))))))
    refine W.ef rfl rfl rfl (Ef.rangeG underlying243 rfl bI fun b2 fd fe ff aK=>?_)
    have fg:=bn.le aK
    refine Nx (WC.block ?_)
    have fh:=(bh.le aK)
    have fi:=(bm.le (R.trans aK))
    have fj:=(bI.le aK)
    have fk:=(F.le (C.trans (X.trans (Q.trans (K.trans (Y.trans (Z.trans (d3.trans (R.trans aK)))))))))
    have fm:=(bl.le (R.trans aK))
    have fp:=(bk.le (Y.trans (Z.trans (d3.trans (R.trans aK)))))
    refine WC.loop (ι:=(Array Nat)) (fun seen=>[(0,.pointer (some ⟨gp,0,none⟩)),(4,.pointer (some ⟨aI,0,none⟩)),(5,.pointer (some ⟨aJ,0,none⟩)),(54,.pointer (some ⟨b2,0,none⟩))]) (fun seen au=>((unsG la seen).any (badX a.e)=la.any (badX a.e))/\ChP w au (fun k=>k=gp\/k=gn\/k=gw)/\fd.heap.size<=au.heap.size/\Blk au gp 246 #[.slice A keys.length c,.map (some gn),.map (some gw),.int .i64 (ht)]/\OVec au 0 43 pv1 1 A keys.length c keys/\MapG au sdf adf gn la ca/\MapG au sdf whf gw lw cw/\Blk au aI 140 (adV a).toArray/\Blk au aJ 3 #[.int .i64 (h)]/\ItG au b2 gn ca seen) (fun seen=>(unsG la seen).length) (#[]) ?_ ?_ ?_
    ·exact .of rfl
    ·exact⟨by rw[unsG_nil],fg,Nat.le_refl _,fh,fi,fj,fk,fm,fp,ff⟩
    rintro seen au ⟨hinv,bJ,b3,aq,a9,x,J,ai,L,fq⟩
    refine Sr (W.ef rfl rfl rfl (Ef.nextG rfl x fq ?_ ?_))
    ·intro ao
     refine Wn 1 rfl (Nx (Sq (WC.condF rfl (WC.exit (E.thenX (E.thenX (E.blkH (E.thenN (Sr (Wa (.field0 fa140_0 rfl) rfl (Wa (.field0 fa81_2 rfl) rfl (Wr (.loadB (v:= .int .i64 (a.e.c)) na3 rfl ai rfl) rfl (Wa (.field0 fa140_0 rfl) rfl (Wa (.field0 fa81_0 rfl) rfl ?_))))))))))))))
     refine Wr (.loadB (v:= .int .i64 (a.e.f)) na3 rfl ai rfl) rfl (Wa (.buildA (cells:=(sdV (sdOf a)).toArray) underlying250 sz3 z250 rfl rfl) rfl (W.ef rfl rfl rfl (Ef.allocA z250 fun ba fr fs (ft:Blk fr ba 250 (sdV noSd).toArray) j=>?_)))
     have fu:=bJ.le j
     refine W.ef0 rfl rfl (Ef.storeAll sz250 (by rfl) rfl rfl ft (by simp only[List.size_toArray,sdV_row.len]) (sdV_row.one (sdOf a)) ?_)
     intro b4 bK l
     have bK:Blk b4 ba 250 (sdV (sdOf a)).toArray:=bK
     have fv:ChP w b4 (fun k=>k=gp\/k=gn\/k=gw):=fu.ch l (fun i hi hlt=>by cases hi;exact absurd hlt (by have:=bJ.size;have:=fs;omega))
     refine Nx (Sq (WC.draw [0,1,2,3,4,5,7,6,8,9] mixed (by kernel_rfl) fun b5 d=>?_))
     have ak:=fv.le d
     refine Gn 1 rfl (Ga rfl (.nilCheck rfl) (Ga rfl (.field0 fa246_2 rfl) ?_))
     have al:=(((aq.le j).cn l (by have:=aq.lt;omega)).le d)
     refine Gd rfl (.loadB (v:= .map (some gw)) na244 rfl al rfl) ?_
     have ay:=(bK.le d)
     refine Gd rfl (.loadAll ag250 (by rfl) rfl ay) ?_
     rcases optG (getG (sdOf a) lw)with D|⟨aj,D⟩
     ·have T:=(((J.le j).cn l (by have:=J.lt;omega)).le d)
      refine Gd rfl (.as (.lookup1 (key:=(sdOf a)) underlying244 ksd z23 rfl rfl T) (by rw[D]<;>rfl)) ?_
      refine Ga rfl (.makeFunc rfl) (G.ef rfl rfl rfl rfl rfl (Ef.call go156 rfl rfl (giclone_ok b5 (Vec.nil _ _ _ _) (by omega)) ?_))
      rintro _ fw ⟨hO,hP,rfl,aa,ab⟩
      refine⟨_,rfl,?_⟩
      refine⟨fun _=>ab,?_⟩
      have fx:=ak.le ab
      have bL:=(((L.le j).cn l (by have:=L.lt;omega)).le (d.trans ab))
      refine G.ef rfl rfl rfl rfl rfl (Ef.call go155 rfl rfl (delf2_ok h go157 fw aa (by omega) (fun i w1 hl=>take1_ok i h ⟨by omega,by omega⟩ w1 (bL.ch hl (aa.rl (by have:=L.lt;have:=j.size;have:=l.size;have:=d.size;omega))))) ?_)
      rintro _ fy ⟨rfl,b6,ac⟩
      refine⟨_,rfl,?_⟩
      refine noT (by kernel_rfl) ?_
      have fz:ChP w fy (fun k=>k=gp\/k=gn\/k=gw):=fx.ch ac (fun i hi hlt=>absurd hlt (by have:=(aa.row hi).1;have:=ak.size;omega))
      have hll:(lateB ([]) h).length<=0:=by have:=List.length_filter_le (fun i=> !decide (i<=h-100)) ([]);exact this
      refine Gn 1 rfl (G.nil (E.thenN (Sq (WC.block (Sq (WC.draw [0,1,2,3,4,5,6,7,8,9,10] mixed (by kernel_rfl) fun fA o=>?_))))))
      have av:=fz.le o
      refine Ga rfl (.field0 fa140_1 rfl) ?_
      have bM:=(((((ai.le j).cn l (by have:=ai.lt;omega)).le (d.trans ab)).ch ac (aa.rl (by have:=ai.lt;have:=j.size;have:=l.size;have:=d.size;omega))).le o)
      refine Gd rfl (.loadB (v:= .int .i64 (a.no)) na3 rfl bM rfl) (Gn 1 rfl (Ga rfl (.nilCheck rfl) (Ga rfl (.field0 fa246_1 rfl) ?_)))
      have aL:=(((al.le ab).ch ac (aa.rl (by have:=al.lt;omega))).le o)
      refine Gd rfl (.loadB (v:= .map (some gn)) na243 rfl aL rfl) ?_
      have bN:=(((ay.le ab).ch ac (aa.rl (by have:=ay.lt;omega))).le o)
      refine Gd rfl (.loadAll ag250 (by rfl) rfl bN) ?_
      rcases optG (getG (sdOf a) la)with am|⟨b7,am⟩
      ·have bo:=(((((x.le j).cn l (by have:=x.lt;omega)).le (d.trans ab)).ch ac (aa.rl (by have:=x.lt;have:=j.size;have:=l.size;have:=d.size;omega))).le o)
       refine Gd rfl (.as (.lookup1 (key:=(sdOf a)) underlying243 ksd z140 rfl rfl bo) (by rw[am]<;>rfl)) ?_
       refine Ga rfl (.field1 (v:= .int .i64 (noAd.no)) underlying140 rfl na3 rfl rfl) (Gn 2 rfl (G.nil (E.thenN ?_)))
       by_cases H:a.no<=noAd.no
       ·refine Cy rfl (dT H) (Sr (Wn 1 rfl (Nx (Rt (E.blkR (E.thenR ?_))))))
        have fB:=(((T.le ab).ch ac (aa.rl (by have:=T.lt;omega))).le o)
        refine E.retG1 rfl rfl ?_
        have hnone:¬la.any (badX a.e)=true:=(by rw[<-hinv,ao];simp);have hle:a.no<=noOf (getG (sdOf a) la):=(by rw[am];simpa[noOf,noAd]using H);have b:takeR keys la lw ht a h=24:=(by unfold takeR;rw[if_neg hok,if_neg (by simpa using S),if_neg hnone,if_pos hle]);exact⟨av,.inl ⟨by rw[b];decide,by rw[b],hL.same av aL bo fB⟩⟩
       refine Cn rfl (dF H) (Sr (Wn 1 rfl (Wr (.len underlying23 rfl) rfl (Wn 2 rfl (Nx ?_)))))
       by_cases U:4<=(((lateB ([]) h).length:Nat):Int)
       ·refine Cy rfl (dT U) (Sr (Wn 1 rfl (Nx (Rt (E.blkR (E.thenR ?_))))))
        have fC:=(((T.le ab).ch ac (aa.rl (by have:=T.lt;omega))).le o)
        refine E.retG1 rfl rfl ?_
        have hnone:¬la.any (badX a.e)=true:=(by rw[<-hinv,ao];simp);have hle:¬a.no<=noOf (getG (sdOf a) la):=(by rw[am];simpa[noOf,noAd]using H);have hrt:4<=(lateB (((getG (sdOf a) lw).map (·.xs)).getD []) h).length:=(by rw[D];have:=U;simp only[Option.map_some,Option.map_none,Option.getD_some,Option.getD_none];omega);have b:takeR keys la lw ht a h=20:=(by unfold takeR;rw[if_neg hok,if_neg (by simpa using S),if_neg hnone,if_neg hle,if_pos hrt]);exact⟨av,.inl ⟨by rw[b];decide,by rw[b],hL.same av aL bo fC⟩⟩
       refine Cn rfl (dF U) (WC.skip (E.blkN (E.thenN (Sq (WC.drawR (fun ar w'=>ChP w w' (fun k=>k=gp\/k=gn\/k=gw)/\Blk w' gp 246 #[.slice A keys.length c,.map (some gn),.map (some gw),.int .i64 (ht)]/\Blk w' ba 250 (sdV (sdOf a)).toArray/\Blk w' aI 140 (adV a).toArray/\Blk w' aJ 3 #[.int .i64 (h)]) [0,1,2,3,4,5,6,7,8,9,10,11,12,13,16,14,15,17,18,19,20,21,22,23,24,25] mixed (by kernel_rfl) fun ar m=>?_)))))
       have b8:=av.le m
       have b9:=(aL.le m)
       have cc:=(bN.le m)
       have cd:=(bM.le m)
       have ce:=((bL.ch ac (aa.rl (by have:=L.lt;have:=j.size;have:=l.size;have:=d.size;omega))).le (o.trans m))
       refine⟨⟨b8,b9,cc,cd,ce⟩,?_⟩
       refine GR.any rfl rfl (.move rfl) rfl rfl rfl (GR.any rfl rfl (.nilCheck rfl) rfl rfl rfl (GR.any rfl rfl (.field0 fa246_1 rfl) rfl rfl rfl (GR.rd rfl rfl (fun w' hs=> .loadB (v:= .map (some gn)) na243 rfl hs.2.1 rfl) rfl rfl rfl (GR.rd rfl rfl (fun w' hs=> .loadAll ag250 (by rfl) rfl hs.2.2.1) rfl rfl rfl ?_))))
       refine GR.any rfl rfl (.move rfl) rfl rfl rfl (GR.any rfl rfl (.nilCheck rfl) rfl rfl rfl (GR.any rfl rfl (.field0 fa246_2 rfl) rfl rfl rfl (GR.rd rfl rfl (fun w' hs=> .loadB (v:= .map (some gw)) na244 rfl hs.2.1 rfl) rfl rfl rfl (GR.rd rfl rfl (fun w' hs=> .loadAll ag250 (by rfl) rfl hs.2.2.1) rfl rfl rfl ?_))))
       refine GR.any rfl rfl (.move rfl) rfl rfl rfl (GR.rd rfl rfl (fun w' hs=> .loadAll ag140 (by rfl) rfl hs.2.2.2.1) rfl rfl rfl ?_)
       refine GR.any rfl rfl (.move rfl) rfl rfl rfl (GR.rd rfl rfl (fun w' hs=> .loadB (v:= .int .i64 (h)) na3 rfl hs.2.2.2.2 rfl) rfl rfl rfl (GR.rd rfl rfl (fun w' hs=> .loadB (v:= .int .i64 (h)) na3 rfl hs.2.2.2.2 rfl) rfl rfl rfl (GR.ef rfl rfl rfl rfl rfl (Ef.buildSliceV (len:=1) [_] underlying23 el3 rfl (by simp[Value.cells]) rfl (by decide) (by decide) ?_))))
       intro cf cg fD bp az
       have ci:=b8.le az
       have bp:Blk cg cf 3 (([h]).map iv).flatten.toArray:=bp
       have hQ:OVec cg ar.heap.size 3 iv 1 (some ⟨cf,0,none⟩) 1 1 ([h]):=bp.ovec fD iv_row rfl rfl (by decide)
       have cj:=(b9.le az)
       have ck:=(cc.le az)
       have cm:=(cd.le az)
       have co:=(ce.le az)
       refine⟨fun _=>⟨ci,cj,ck,cm,co⟩,?_⟩
       have aE:=(b6.le (o.trans (m.trans az)))
       refine GR.ef rfl rfl rfl rfl rfl (Ef.vpush (a:=h) underlying23 el3 underlying23 iv_row rfl aE rfl bp (by omega) (by unfold maxLen;omega) (by have:=ab.size;have:=ac.size;have:=o.size;have:=m.size;have:=az.size;omega) ?_)
       intro cp cq fE bb aM hR
       have cr:ChP w fE (fun k=>k=gp\/k=gn\/k=gw):=ci.ch aM (fun i hi hlt=>absurd hlt (by have:=(aE.row hi).1;have:=ak.size;omega))
       have cs:=(cj.ch aM (aE.rl (by have:=al.lt;omega)))
       have ct:=(ck.ch aM (aE.rl (by have:=ay.lt;omega)))
       have cu:=(cm.ch aM (aE.rl (by have:=ai.lt;have:=j.size;have:=l.size;have:=d.size;omega)))
       have cv:=(co.ch aM (aE.rl (by have:=L.lt;have:=j.size;have:=l.size;have:=d.size;omega)))
       refine⟨fun _=>⟨cr,cs,ct,cu,cv⟩,?_⟩
       refine GR.ef rfl rfl rfl rfl rfl (Ef.mapEntryN (key:=(sdOf a)) (z:=noAd) underlying243 ksd z140 rfl rfl ((bo.le (m.trans az)).ch aM (aE.rl (by have:=x.lt;have:=j.size;have:=l.size;have:=d.size;omega))) am ?_)
       intro fF fG aO
       have cx:ChP w fF (fun k=>k=gp\/k=gn\/k=gw):=cr.ch aO (fun i hi _=>by cases hi;exact Or.inr (Or.inl rfl))
       have cy:=(cs.ch aO (fun h=>(Ne.symm hL.pn) (oI h)))
       have cz:=(ct.cn aO (by have:=x.lt;omega))
       have cA:=(cu.cn aO (by have:=I.lt;omega))
       have cB:=(cv.cn aO (by have:=I.lt;have:=C.size;omega))
       refine⟨fun _=>⟨cx,cy,cz,cA,cB⟩,?_⟩
       refine GR.any rfl rfl (.extract (v:= .int .i64 (((ca:Nat):Int))) rfl rfl) rfl rfl rfl (GR.ef0 rfl rfl rfl rfl (Ef.entryStoreG (key:=(sdOf a)) (u:=a) rfl rfl rfl fG (List.mem_append_right _ (List.mem_singleton.2 rfl)) fun fH fI aP=>?_))
       have cC:ChP w fH (fun k=>k=gp\/k=gn\/k=gw):=cx.ch aP (fun i hi _=>by cases hi;exact Or.inr (Or.inl rfl))
       have cD:=(cy.ch aP (fun h=>(Ne.symm hL.pn) (oI h)))
       have cE:=(cz.cn aP (by have:=x.lt;omega))
       have cF:=(cA.cn aP (by have:=I.lt;omega))
       have cG:=(cB.cn aP (by have:=I.lt;have:=C.size;omega))
       refine⟨fun _=>⟨cC,cD,cE,cF,cG⟩,?_⟩
       refine GR.ef rfl rfl rfl rfl rfl (Ef.mapEntryN (key:=(sdOf a)) (z:=noWh) underlying244 ksd z23 rfl rfl ((((((T.le ab).ch ac (aa.rl (by have:=T.lt;omega))).le (o.trans (m.trans az))).ch aM (aE.rl (by have:=T.lt;omega))).ch aO (fun h=>hL.nw (oI h))).ch aP (fun h=>hL.nw (oI h))) D ?_)
       intro fJ fK aQ
       have cH:ChP w fJ (fun k=>k=gp\/k=gn\/k=gw):=cC.ch aQ (fun i hi _=>by cases hi;exact Or.inr (Or.inr rfl))
       have cI:=(cD.ch aQ (fun h=>(Ne.symm hL.pw) (oI h)))
       have cJ:=(cE.cn aQ (by have:=J.lt;omega))
       have cK:=(cF.cn aQ (by have:=F.lt;omega))
       have cL:=(cG.cn aQ (by have:=F.lt;have:=C.size;omega))
       refine⟨fun _=>⟨cH,cI,cJ,cK,cL⟩,?_⟩
       refine GR.any rfl rfl (.extract (v:= .int .i64 (((cw:Nat):Int))) rfl rfl) rfl rfl rfl (GR.ef0 rfl rfl rfl rfl (Ef.entryStoreG (key:=(sdOf a)) (u:=(⟨cp,((lateB ([]) h).length+1),cq,((lateB ([]) h)++[h])⟩:Wh)) rfl rfl rfl fK (List.mem_append_right _ (List.mem_singleton.2 rfl)) fun fL fM aR=>?_))
       have cM:ChP w fL (fun k=>k=gp\/k=gn\/k=gw):=cH.ch aR (fun i hi _=>by cases hi;exact Or.inr (Or.inr rfl))
       have cN:=(cI.ch aR (fun h=>(Ne.symm hL.pw) (oI h)))
       refine⟨fun _=>⟨cM,cN,(cJ.cn aR (by have:=J.lt;omega)),(cK.cn aR (by have:=F.lt;omega)),(cL.cn aR (by have:=F.lt;have:=C.size;omega))⟩,?_⟩
       refine GR.any rfl rfl (.nilCheck rfl) rfl rfl rfl (GR.any rfl rfl (.field0 fa246_3 rfl) rfl rfl rfl (GR.ef0 rfl rfl rfl rfl (Ef.store sz3 rfl rfl cN (by first|decide|(simp;done)) (rfl) ?_)))
       intro cO bO bq
       have bO:Blk cO gp 246 #[.slice A keys.length c,.map (some gn),.map (some gw),.int .i64 (h)]:=bO
       have cP:ChP w cO (fun k=>k=gp\/k=gn\/k=gw):=cM.ch bq (fun i hi _=>by cases hi;exact Or.inl rfl)
       refine noT (by kernel_rfl) (GR.nil (E.thenN (Sr (Wn 1 rfl (Nx (Rt ?_))))))
       have fN:=(((fI.ch aQ (fun h=>(Ne.symm hL.nw) (oI h))).ch aR (fun h=>(Ne.symm hL.nw) (oI h))).ch bq (fun h=>hL.pn (oI h)))
       have fO:=(fM.ch bq (fun h=>hL.pw (oI h)))
       have fP:=(((((bb.cb aO (bb.rl (by have:=x.lt;have:=j.size;have:=l.size;have:=d.size;omega))).cb aP (bb.rl (by have:=x.lt;have:=j.size;have:=l.size;have:=d.size;omega))).cb aQ (bb.rl (by have:=T.lt;omega))).cb aR (bb.rl (by have:=T.lt;omega))).cb bq (bb.rl (by have:=al.lt;omega)))
       refine E.retG1 rfl rfl ?_
       have hnone:¬la.any (badX a.e)=true:=(by rw[<-hinv,ao];simp);have hle:¬a.no<=noOf (getG (sdOf a) la):=(by rw[am];simpa[noOf,noAd]using H);have hrt:¬4<=(lateB (((getG (sdOf a) lw).map (·.xs)).getD []) h).length:=(by rw[D];have:=U;simp only[Option.map_some,Option.map_none,Option.getD_some,Option.getD_none];omega);have b:takeR keys la lw ht a h=0:=(by unfold takeR;rw[if_neg hok,if_neg (by simpa using S),if_neg hnone,if_neg hle,if_neg hrt]);obtain⟨hB,hbz⟩:=hL.put cP bO fN fO (v:=(⟨cp,((lateB ([]) h).length+1),cq,((lateB ([]) h)++[h])⟩:Wh)) (s:=sdOf a) (fP.mono ak.size) (fun k=>getG_put0 D k);exact⟨cP,.inr ⟨b,rfl,_,_,_,_,_,hB,(fun k=>getG_put0 am k),(by rw[D];rfl),(fun k=>getG_put0 D k),hbz⟩⟩
      have bs:=(((((x.le j).cn l (by have:=x.lt;omega)).le (d.trans ab)).ch ac (aa.rl (by have:=x.lt;have:=j.size;have:=l.size;have:=d.size;omega))).le o)
      refine Gd rfl (.as (.lookup1 (key:=(sdOf a)) underlying243 ksd z140 rfl rfl bs) (by rw[am]<;>rfl)) ?_
      refine Ga rfl (.field1 (v:= .int .i64 (b7.no)) underlying140 rfl na3 rfl rfl) (Gn 2 rfl (G.nil (E.thenN ?_)))
      by_cases H:a.no<=b7.no
      ·refine Cy rfl (dT H) (Sr (Wn 1 rfl (Nx (Rt (E.blkR (E.thenR ?_))))))
       have fQ:=(((T.le ab).ch ac (aa.rl (by have:=T.lt;omega))).le o)
       refine E.retG1 rfl rfl ?_
       have hnone:¬la.any (badX a.e)=true:=(by rw[<-hinv,ao];simp);have hle:a.no<=noOf (getG (sdOf a) la):=(by rw[am];simpa[noOf,noAd]using H);have b:takeR keys la lw ht a h=24:=(by unfold takeR;rw[if_neg hok,if_neg (by simpa using S),if_neg hnone,if_pos hle]);exact⟨av,.inl ⟨by rw[b];decide,by rw[b],hL.same av aL bs fQ⟩⟩
      refine Cn rfl (dF H) (Sr (Wn 1 rfl (Wr (.len underlying23 rfl) rfl (Wn 2 rfl (Nx ?_)))))
      by_cases U:4<=(((lateB ([]) h).length:Nat):Int)
      ·refine Cy rfl (dT U) (Sr (Wn 1 rfl (Nx (Rt (E.blkR (E.thenR ?_))))))
       have fR:=(((T.le ab).ch ac (aa.rl (by have:=T.lt;omega))).le o)
       refine E.retG1 rfl rfl ?_
       have hnone:¬la.any (badX a.e)=true:=(by rw[<-hinv,ao];simp);have hle:¬a.no<=noOf (getG (sdOf a) la):=(by rw[am];simpa[noOf,noAd]using H);have hrt:4<=(lateB (((getG (sdOf a) lw).map (·.xs)).getD []) h).length:=(by rw[D];have:=U;simp only[Option.map_some,Option.map_none,Option.getD_some,Option.getD_none];omega);have b:takeR keys la lw ht a h=20:=(by unfold takeR;rw[if_neg hok,if_neg (by simpa using S),if_neg hnone,if_neg hle,if_pos hrt]);exact⟨av,.inl ⟨by rw[b];decide,by rw[b],hL.same av aL bs fR⟩⟩
      refine Cn rfl (dF U) (WC.skip (E.blkN (E.thenN (Sq (WC.drawR (fun ar w'=>ChP w w' (fun k=>k=gp\/k=gn\/k=gw)/\Blk w' gp 246 #[.slice A keys.length c,.map (some gn),.map (some gw),.int .i64 (ht)]/\Blk w' ba 250 (sdV (sdOf a)).toArray/\Blk w' aI 140 (adV a).toArray/\Blk w' aJ 3 #[.int .i64 (h)]) [0,1,2,3,4,5,6,7,8,9,10,11,12,13,16,14,15,17,18,19,20,21,22,23,24,25] mixed (by kernel_rfl) fun ar m=>?_)))))
      have cQ:=av.le m
      have cR:=(aL.le m)
      have cS:=(bN.le m)
      have cT:=(bM.le m)
      have cU:=((bL.ch ac (aa.rl (by have:=L.lt;have:=j.size;have:=l.size;have:=d.size;omega))).le (o.trans m))
      refine⟨⟨cQ,cR,cS,cT,cU⟩,?_⟩
      refine GR.any rfl rfl (.move rfl) rfl rfl rfl (GR.any rfl rfl (.nilCheck rfl) rfl rfl rfl (GR.any rfl rfl (.field0 fa246_1 rfl) rfl rfl rfl (GR.rd rfl rfl (fun w' hs=> .loadB (v:= .map (some gn)) na243 rfl hs.2.1 rfl) rfl rfl rfl (GR.rd rfl rfl (fun w' hs=> .loadAll ag250 (by rfl) rfl hs.2.2.1) rfl rfl rfl ?_))))
      refine GR.any rfl rfl (.move rfl) rfl rfl rfl (GR.any rfl rfl (.nilCheck rfl) rfl rfl rfl (GR.any rfl rfl (.field0 fa246_2 rfl) rfl rfl rfl (GR.rd rfl rfl (fun w' hs=> .loadB (v:= .map (some gw)) na244 rfl hs.2.1 rfl) rfl rfl rfl (GR.rd rfl rfl (fun w' hs=> .loadAll ag250 (by rfl) rfl hs.2.2.1) rfl rfl rfl ?_))))
      refine GR.any rfl rfl (.move rfl) rfl rfl rfl (GR.rd rfl rfl (fun w' hs=> .loadAll ag140 (by rfl) rfl hs.2.2.2.1) rfl rfl rfl ?_)
      refine GR.any rfl rfl (.move rfl) rfl rfl rfl (GR.rd rfl rfl (fun w' hs=> .loadB (v:= .int .i64 (h)) na3 rfl hs.2.2.2.2 rfl) rfl rfl rfl (GR.rd rfl rfl (fun w' hs=> .loadB (v:= .int .i64 (h)) na3 rfl hs.2.2.2.2 rfl) rfl rfl rfl (GR.ef rfl rfl rfl rfl rfl (Ef.buildSliceV (len:=1) [_] underlying23 el3 rfl (by simp[Value.cells]) rfl (by decide) (by decide) ?_))))
      intro cV cW fS bt aA
      have cX:=cQ.le aA
      have bt:Blk cW cV 3 (([h]).map iv).flatten.toArray:=bt
      have hS:OVec cW ar.heap.size 3 iv 1 (some ⟨cV,0,none⟩) 1 1 ([h]):=bt.ovec fS iv_row rfl rfl (by decide)
      have cY:=(cR.le aA)
      have cZ:=(cS.le aA)
      have c2:=(cT.le aA)
      have c6:=(cU.le aA)
      refine⟨fun _=>⟨cX,cY,cZ,c2,c6⟩,?_⟩
      have aF:=(b6.le (o.trans (m.trans aA)))
      refine GR.ef rfl rfl rfl rfl rfl (Ef.vpush (a:=h) underlying23 el3 underlying23 iv_row rfl aF rfl bt (by omega) (by unfold maxLen;omega) (by have:=ab.size;have:=ac.size;have:=o.size;have:=m.size;have:=aA.size;omega) ?_)
      intro c7 c8 fT bc aS hT
      have c9:ChP w fT (fun k=>k=gp\/k=gn\/k=gw):=cX.ch aS (fun i hi hlt=>absurd hlt (by have:=(aF.row hi).1;have:=ak.size;omega))
      have da:=(cY.ch aS (aF.rl (by have:=al.lt;omega)))
      have db:=(cZ.ch aS (aF.rl (by have:=ay.lt;omega)))
      have dc:=(c2.ch aS (aF.rl (by have:=ai.lt;have:=j.size;have:=l.size;have:=d.size;omega)))
      have dd:=(c6.ch aS (aF.rl (by have:=L.lt;have:=j.size;have:=l.size;have:=d.size;omega)))
      refine⟨fun _=>⟨c9,da,db,dc,dd⟩,?_⟩
      refine GR.ef rfl rfl rfl rfl rfl (Ef.mapEntryG (key:=(sdOf a)) underlying243 ksd rfl rfl ((bs.le (m.trans aA)).ch aS (aF.rl (by have:=x.lt;have:=j.size;have:=l.size;have:=d.size;omega))) stay_sd am ?_)
      intro fU fV fW fX aT
      have de:ChP w fV (fun k=>k=gp\/k=gn\/k=gw):=c9.ch aT (fun i hi _=>by cases hi;exact Or.inr (Or.inl rfl))
      have dg:=(da.ch aT (fun h=>(Ne.symm hL.pn) (oI h)))
      have dh:=(db.cn aT (by have:=x.lt;omega))
      have di:=(dc.cn aT (by have:=I.lt;omega))
      have dj:=(dd.cn aT (by have:=I.lt;have:=C.size;omega))
      refine⟨fun _=>⟨de,dg,dh,di,dj⟩,?_⟩
      refine GR.any rfl rfl (.extract (v:= .int .i64 (((fU:Nat):Int))) rfl rfl) rfl rfl rfl (GR.ef0 rfl rfl rfl rfl (Ef.entryStoreG (key:=(sdOf a)) (u:=a) rfl rfl rfl fX fW fun fY fZ aU=>?_))
      have dk:ChP w fY (fun k=>k=gp\/k=gn\/k=gw):=de.ch aU (fun i hi _=>by cases hi;exact Or.inr (Or.inl rfl))
      have dl:=(dg.ch aU (fun h=>(Ne.symm hL.pn) (oI h)))
      have dm:=(dh.cn aU (by have:=x.lt;omega))
      have dn:=(di.cn aU (by have:=I.lt;omega))
      have dp:=(dj.cn aU (by have:=I.lt;have:=C.size;omega))
      refine⟨fun _=>⟨dk,dl,dm,dn,dp⟩,?_⟩
      refine GR.ef rfl rfl rfl rfl rfl (Ef.mapEntryN (key:=(sdOf a)) (z:=noWh) underlying244 ksd z23 rfl rfl ((((((T.le ab).ch ac (aa.rl (by have:=T.lt;omega))).le (o.trans (m.trans aA))).ch aS (aF.rl (by have:=T.lt;omega))).ch aT (fun h=>hL.nw (oI h))).ch aU (fun h=>hL.nw (oI h))) D ?_)
      intro f0 f1 aV
      have dq:ChP w f0 (fun k=>k=gp\/k=gn\/k=gw):=dk.ch aV (fun i hi _=>by cases hi;exact Or.inr (Or.inr rfl))
      have dr:=(dl.ch aV (fun h=>(Ne.symm hL.pw) (oI h)))
      have ds:=(dm.cn aV (by have:=J.lt;omega))
      have du:=(dn.cn aV (by have:=F.lt;omega))
      have dw:=(dp.cn aV (by have:=F.lt;have:=C.size;omega))
      refine⟨fun _=>⟨dq,dr,ds,du,dw⟩,?_⟩
      refine GR.any rfl rfl (.extract (v:= .int .i64 (((cw:Nat):Int))) rfl rfl) rfl rfl rfl (GR.ef0 rfl rfl rfl rfl (Ef.entryStoreG (key:=(sdOf a)) (u:=(⟨c7,((lateB ([]) h).length+1),c8,((lateB ([]) h)++[h])⟩:Wh)) rfl rfl rfl f1 (List.mem_append_right _ (List.mem_singleton.2 rfl)) fun f2 f3 aW=>?_))
      have dx:ChP w f2 (fun k=>k=gp\/k=gn\/k=gw):=dq.ch aW (fun i hi _=>by cases hi;exact Or.inr (Or.inr rfl))
      have dy:=(dr.ch aW (fun h=>(Ne.symm hL.pw) (oI h)))
      refine⟨fun _=>⟨dx,dy,(ds.cn aW (by have:=J.lt;omega)),(du.cn aW (by have:=F.lt;omega)),(dw.cn aW (by have:=F.lt;have:=C.size;omega))⟩,?_⟩
      refine GR.any rfl rfl (.nilCheck rfl) rfl rfl rfl (GR.any rfl rfl (.field0 fa246_3 rfl) rfl rfl rfl (GR.ef0 rfl rfl rfl rfl (Ef.store sz3 rfl rfl dy (by first|decide|(simp;done)) (rfl) ?_)))
      intro dz bP bu
      have bP:Blk dz gp 246 #[.slice A keys.length c,.map (some gn),.map (some gw),.int .i64 (h)]:=bP
      have dA:ChP w dz (fun k=>k=gp\/k=gn\/k=gw):=dx.ch bu (fun i hi _=>by cases hi;exact Or.inl rfl)
      refine noT (by kernel_rfl) (GR.nil (E.thenN (Sr (Wn 1 rfl (Nx (Rt ?_))))))
      have f5:=(((fZ.ch aV (fun h=>(Ne.symm hL.nw) (oI h))).ch aW (fun h=>(Ne.symm hL.nw) (oI h))).ch bu (fun h=>hL.pn (oI h)))
      have ga:=(f3.ch bu (fun h=>hL.pw (oI h)))
      have gb:=(((((bc.cb aT (bc.rl (by have:=x.lt;have:=j.size;have:=l.size;have:=d.size;omega))).cb aU (bc.rl (by have:=x.lt;have:=j.size;have:=l.size;have:=d.size;omega))).cb aV (bc.rl (by have:=T.lt;omega))).cb aW (bc.rl (by have:=T.lt;omega))).cb bu (bc.rl (by have:=al.lt;omega)))
      refine E.retG1 rfl rfl ?_
      have hnone:¬la.any (badX a.e)=true:=(by rw[<-hinv,ao];simp);have hle:¬a.no<=noOf (getG (sdOf a) la):=(by rw[am];simpa[noOf,noAd]using H);have hrt:¬4<=(lateB (((getG (sdOf a) lw).map (·.xs)).getD []) h).length:=(by rw[D];have:=U;simp only[Option.map_some,Option.map_none,Option.getD_some,Option.getD_none];omega);have b:takeR keys la lw ht a h=0:=(by unfold takeR;rw[if_neg hok,if_neg (by simpa using S),if_neg hnone,if_neg hle,if_neg hrt]);obtain⟨hB,hbz⟩:=hL.put dA bP f5 ga (v:=(⟨c7,((lateB ([]) h).length+1),c8,((lateB ([]) h)++[h])⟩:Wh)) (s:=sdOf a) (gb.mono ak.size) (fun k=>getG_put0 D k);exact⟨dA,.inr ⟨b,rfl,_,_,_,_,_,hB,(fun k=>getG_put1 am k),(by rw[D];rfl),(fun k=>getG_put0 D k),hbz⟩⟩
     have hvw:=hL.hV _ _ D
     have hU:=hw4 _ _ D
     have hvx:aj.xs.length=aj.n:=hvw.1
     have V:=(((J.le j).cn l (by have:=J.lt;omega)).le d)
     refine Gd rfl (.as (.lookup1 (key:=(sdOf a)) underlying244 ksd z23 rfl rfl V) (by rw[D]<;>rfl)) ?_
     refine Ga rfl (.makeFunc rfl) (G.ef rfl rfl rfl rfl rfl (Ef.call go156 rfl rfl (giclone_ok b5 (hvw.chP ak (fun g h1 h2 _=>hL.vp _ _ D g ⟨h2,h1⟩)) (by omega)) ?_))
     rintro _ gc ⟨hX,hY,rfl,ad,ae⟩
     refine⟨_,rfl,?_⟩
     refine⟨fun _=>ae,?_⟩
     have gd:=ak.le ae
     have bQ:=(((L.le j).cn l (by have:=L.lt;omega)).le (d.trans ae))
     refine G.ef rfl rfl rfl rfl rfl (Ef.call go155 rfl rfl (delf2_ok h go157 gc ad (by omega) (fun i w1 hl=>take1_ok i h ⟨by omega,by omega⟩ w1 (bQ.ch hl (ad.rl (by have:=L.lt;have:=j.size;have:=l.size;have:=d.size;omega))))) ?_)
     rintro _ gf ⟨rfl,dB,af⟩
     refine⟨_,rfl,?_⟩
     refine noT (by kernel_rfl) ?_
     have gg:ChP w gf (fun k=>k=gp\/k=gn\/k=gw):=gd.ch af (fun i hi hlt=>absurd hlt (by have:=(ad.row hi).1;have:=ak.size;omega))
     have hll:(lateB aj.xs h).length<=aj.n:=by have:=List.length_filter_le (fun i=> !decide (i<=h-100)) aj.xs;rw[hvx]at this;exact this
     refine Gn 1 rfl (G.nil (E.thenN (Sq (WC.block (Sq (WC.draw [0,1,2,3,4,5,6,7,8,9,10] mixed (by kernel_rfl) fun fA o=>?_))))))
     have aw:=gg.le o
     refine Ga rfl (.field0 fa140_1 rfl) ?_
     have bR:=(((((ai.le j).cn l (by have:=ai.lt;omega)).le (d.trans ae)).ch af (ad.rl (by have:=ai.lt;have:=j.size;have:=l.size;have:=d.size;omega))).le o)
     refine Gd rfl (.loadB (v:= .int .i64 (a.no)) na3 rfl bR rfl) (Gn 1 rfl (Ga rfl (.nilCheck rfl) (Ga rfl (.field0 fa246_1 rfl) ?_)))
     have aX:=(((al.le ae).ch af (ad.rl (by have:=al.lt;omega))).le o)
     refine Gd rfl (.loadB (v:= .map (some gn)) na243 rfl aX rfl) ?_
     have bS:=(((ay.le ae).ch af (ad.rl (by have:=ay.lt;omega))).le o)
     refine Gd rfl (.loadAll ag250 (by rfl) rfl bS) ?_
     rcases optG (getG (sdOf a) la)with an|⟨dC,an⟩
     ·have bv:=(((((x.le j).cn l (by have:=x.lt;omega)).le (d.trans ae)).ch af (ad.rl (by have:=x.lt;have:=j.size;have:=l.size;have:=d.size;omega))).le o)
      refine Gd rfl (.as (.lookup1 (key:=(sdOf a)) underlying243 ksd z140 rfl rfl bv) (by rw[an]<;>rfl)) ?_
      refine Ga rfl (.field1 (v:= .int .i64 (noAd.no)) underlying140 rfl na3 rfl rfl) (Gn 2 rfl (G.nil (E.thenN ?_)))
      by_cases H:a.no<=noAd.no
      ·refine Cy rfl (dT H) (Sr (Wn 1 rfl (Nx (Rt (E.blkR (E.thenR ?_))))))
       have gh:=(((V.le ae).ch af (ad.rl (by have:=V.lt;omega))).le o)
       refine E.retG1 rfl rfl ?_
       have hnone:¬la.any (badX a.e)=true:=(by rw[<-hinv,ao];simp);have hle:a.no<=noOf (getG (sdOf a) la):=(by rw[an];simpa[noOf,noAd]using H);have b:takeR keys la lw ht a h=24:=(by unfold takeR;rw[if_neg hok,if_neg (by simpa using S),if_neg hnone,if_pos hle]);exact⟨aw,.inl ⟨by rw[b];decide,by rw[b],hL.same aw aX bv gh⟩⟩
      refine Cn rfl (dF H) (Sr (Wn 1 rfl (Wr (.len underlying23 rfl) rfl (Wn 2 rfl (Nx ?_)))))
      by_cases U:4<=(((lateB aj.xs h).length:Nat):Int)
      ·refine Cy rfl (dT U) (Sr (Wn 1 rfl (Nx (Rt (E.blkR (E.thenR ?_))))))
       have gi:=(((V.le ae).ch af (ad.rl (by have:=V.lt;omega))).le o)
       refine E.retG1 rfl rfl ?_
       have hnone:¬la.any (badX a.e)=true:=(by rw[<-hinv,ao];simp);have hle:¬a.no<=noOf (getG (sdOf a) la):=(by rw[an];simpa[noOf,noAd]using H);have hrt:4<=(lateB (((getG (sdOf a) lw).map (·.xs)).getD []) h).length:=(by rw[D];have:=U;simp only[Option.map_some,Option.map_none,Option.getD_some,Option.getD_none];omega);have b:takeR keys la lw ht a h=20:=(by unfold takeR;rw[if_neg hok,if_neg (by simpa using S),if_neg hnone,if_neg hle,if_pos hrt]);exact⟨aw,.inl ⟨by rw[b];decide,by rw[b],hL.same aw aX bv gi⟩⟩
      refine Cn rfl (dF U) (WC.skip (E.blkN (E.thenN (Sq (WC.drawR (fun ar w'=>ChP w w' (fun k=>k=gp\/k=gn\/k=gw)/\Blk w' gp 246 #[.slice A keys.length c,.map (some gn),.map (some gw),.int .i64 (ht)]/\Blk w' ba 250 (sdV (sdOf a)).toArray/\Blk w' aI 140 (adV a).toArray/\Blk w' aJ 3 #[.int .i64 (h)]) [0,1,2,3,4,5,6,7,8,9,10,11,12,13,16,14,15,17,18,19,20,21,22,23,24,25] mixed (by kernel_rfl) fun ar m=>?_)))))
      have dD:=aw.le m
      have dE:=(aX.le m)
      have dG:=(bS.le m)
      have dH:=(bR.le m)
      have dI:=((bQ.ch af (ad.rl (by have:=L.lt;have:=j.size;have:=l.size;have:=d.size;omega))).le (o.trans m))
      refine⟨⟨dD,dE,dG,dH,dI⟩,?_⟩
      refine GR.any rfl rfl (.move rfl) rfl rfl rfl (GR.any rfl rfl (.nilCheck rfl) rfl rfl rfl (GR.any rfl rfl (.field0 fa246_1 rfl) rfl rfl rfl (GR.rd rfl rfl (fun w' hs=> .loadB (v:= .map (some gn)) na243 rfl hs.2.1 rfl) rfl rfl rfl (GR.rd rfl rfl (fun w' hs=> .loadAll ag250 (by rfl) rfl hs.2.2.1) rfl rfl rfl ?_))))
      refine GR.any rfl rfl (.move rfl) rfl rfl rfl (GR.any rfl rfl (.nilCheck rfl) rfl rfl rfl (GR.any rfl rfl (.field0 fa246_2 rfl) rfl rfl rfl (GR.rd rfl rfl (fun w' hs=> .loadB (v:= .map (some gw)) na244 rfl hs.2.1 rfl) rfl rfl rfl (GR.rd rfl rfl (fun w' hs=> .loadAll ag250 (by rfl) rfl hs.2.2.1) rfl rfl rfl ?_))))
      refine GR.any rfl rfl (.move rfl) rfl rfl rfl (GR.rd rfl rfl (fun w' hs=> .loadAll ag140 (by rfl) rfl hs.2.2.2.1) rfl rfl rfl ?_)
      refine GR.any rfl rfl (.move rfl) rfl rfl rfl (GR.rd rfl rfl (fun w' hs=> .loadB (v:= .int .i64 (h)) na3 rfl hs.2.2.2.2 rfl) rfl rfl rfl (GR.rd rfl rfl (fun w' hs=> .loadB (v:= .int .i64 (h)) na3 rfl hs.2.2.2.2 rfl) rfl rfl rfl (GR.ef rfl rfl rfl rfl rfl (Ef.buildSliceV (len:=1) [_] underlying23 el3 rfl (by simp[Value.cells]) rfl (by decide) (by decide) ?_))))
      intro dJ dK gj bw aB
      have dL:=dD.le aB
      have bw:Blk dK dJ 3 (([h]).map iv).flatten.toArray:=bw
      have hZ:OVec dK ar.heap.size 3 iv 1 (some ⟨dJ,0,none⟩) 1 1 ([h]):=bw.ovec gj iv_row rfl rfl (by decide)
      have dM:=(dE.le aB)
      have dN:=(dG.le aB)
      have dO:=(dH.le aB)
      have dP:=(dI.le aB)
      refine⟨fun _=>⟨dL,dM,dN,dO,dP⟩,?_⟩
      have aG:=(dB.le (o.trans (m.trans aB)))
      refine GR.ef rfl rfl rfl rfl rfl (Ef.vpush (a:=h) underlying23 el3 underlying23 iv_row rfl aG rfl bw (by omega) (by unfold maxLen;omega) (by have:=ae.size;have:=af.size;have:=o.size;have:=m.size;have:=aB.size;omega) ?_)
      intro dQ dR gk bd aY h0
      have dS:ChP w gk (fun k=>k=gp\/k=gn\/k=gw):=dL.ch aY (fun i hi hlt=>absurd hlt (by have:=(aG.row hi).1;have:=ak.size;omega))
      have dU:=(dM.ch aY (aG.rl (by have:=al.lt;omega)))
      have dV:=(dN.ch aY (aG.rl (by have:=ay.lt;omega)))
      have dW:=(dO.ch aY (aG.rl (by have:=ai.lt;have:=j.size;have:=l.size;have:=d.size;omega)))
      have dX:=(dP.ch aY (aG.rl (by have:=L.lt;have:=j.size;have:=l.size;have:=d.size;omega)))
      refine⟨fun _=>⟨dS,dU,dV,dW,dX⟩,?_⟩
      refine GR.ef rfl rfl rfl rfl rfl (Ef.mapEntryN (key:=(sdOf a)) (z:=noAd) underlying243 ksd z140 rfl rfl ((bv.le (m.trans aB)).ch aY (aG.rl (by have:=x.lt;have:=j.size;have:=l.size;have:=d.size;omega))) an ?_)
      intro gl gm aZ
      have dY:ChP w gl (fun k=>k=gp\/k=gn\/k=gw):=dS.ch aZ (fun i hi _=>by cases hi;exact Or.inr (Or.inl rfl))
      have dZ:=(dU.ch aZ (fun h=>(Ne.symm hL.pn) (oI h)))
      have d0:=(dV.cn aZ (by have:=x.lt;omega))
      have d2:=(dW.cn aZ (by have:=I.lt;omega))
      have d4:=(dX.cn aZ (by have:=I.lt;have:=C.size;omega))
      refine⟨fun _=>⟨dY,dZ,d0,d2,d4⟩,?_⟩
      refine GR.any rfl rfl (.extract (v:= .int .i64 (((ca:Nat):Int))) rfl rfl) rfl rfl rfl (GR.ef0 rfl rfl rfl rfl (Ef.entryStoreG (key:=(sdOf a)) (u:=a) rfl rfl rfl gm (List.mem_append_right _ (List.mem_singleton.2 rfl)) fun gq gr a0=>?_))
      have d5:ChP w gq (fun k=>k=gp\/k=gn\/k=gw):=dY.ch a0 (fun i hi _=>by cases hi;exact Or.inr (Or.inl rfl))
      have d6:=(dZ.ch a0 (fun h=>(Ne.symm hL.pn) (oI h)))
      have d7:=(d0.cn a0 (by have:=x.lt;omega))
      have d8:=(d2.cn a0 (by have:=I.lt;omega))
      have d9:=(d4.cn a0 (by have:=I.lt;have:=C.size;omega))
      refine⟨fun _=>⟨d5,d6,d7,d8,d9⟩,?_⟩
      refine GR.ef rfl rfl rfl rfl rfl (Ef.mapEntryG (key:=(sdOf a)) underlying244 ksd rfl rfl ((((((V.le ae).ch af (ad.rl (by have:=V.lt;omega))).le (o.trans (m.trans aB))).ch aY (aG.rl (by have:=V.lt;omega))).ch aZ (fun h=>hL.nw (oI h))).ch a0 (fun h=>hL.nw (oI h))) stay_sd D ?_)
      intro gs gu gv gx a1
      have ea:ChP w gu (fun k=>k=gp\/k=gn\/k=gw):=d5.ch a1 (fun i hi _=>by cases hi;exact Or.inr (Or.inr rfl))
      have eb:=(d6.ch a1 (fun h=>(Ne.symm hL.pw) (oI h)))
      have ec:=(d7.cn a1 (by have:=J.lt;omega))
      have ed:=(d8.cn a1 (by have:=F.lt;omega))
      have ee:=(d9.cn a1 (by have:=F.lt;have:=C.size;omega))
      refine⟨fun _=>⟨ea,eb,ec,ed,ee⟩,?_⟩
      refine GR.any rfl rfl (.extract (v:= .int .i64 (((gs:Nat):Int))) rfl rfl) rfl rfl rfl (GR.ef0 rfl rfl rfl rfl (Ef.entryStoreG (key:=(sdOf a)) (u:=(⟨dQ,((lateB aj.xs h).length+1),dR,((lateB aj.xs h)++[h])⟩:Wh)) rfl rfl rfl gx gv fun gy gz a2=>?_))
      have eg:ChP w gy (fun k=>k=gp\/k=gn\/k=gw):=ea.ch a2 (fun i hi _=>by cases hi;exact Or.inr (Or.inr rfl))
      have eh:=(eb.ch a2 (fun h=>(Ne.symm hL.pw) (oI h)))
      refine⟨fun _=>⟨eg,eh,(ec.cn a2 (by have:=J.lt;omega)),(ed.cn a2 (by have:=F.lt;omega)),(ee.cn a2 (by have:=F.lt;have:=C.size;omega))⟩,?_⟩
      refine GR.any rfl rfl (.nilCheck rfl) rfl rfl rfl (GR.any rfl rfl (.field0 fa246_3 rfl) rfl rfl rfl (GR.ef0 rfl rfl rfl rfl (Ef.store sz3 rfl rfl eh (by first|decide|(simp;done)) (rfl) ?_)))
      intro ei bT bx
      have bT:Blk ei gp 246 #[.slice A keys.length c,.map (some gn),.map (some gw),.int .i64 (h)]:=bT
      have ej:ChP w ei (fun k=>k=gp\/k=gn\/k=gw):=eg.ch bx (fun i hi _=>by cases hi;exact Or.inl rfl)
      refine noT (by kernel_rfl) (GR.nil (E.thenN (Sr (Wn 1 rfl (Nx (Rt ?_))))))
      have gA:=(((gr.ch a1 (fun h=>(Ne.symm hL.nw) (oI h))).ch a2 (fun h=>(Ne.symm hL.nw) (oI h))).ch bx (fun h=>hL.pn (oI h)))
      have gB:=(gz.ch bx (fun h=>hL.pw (oI h)))
      have gC:=(((((bd.cb aZ (bd.rl (by have:=x.lt;have:=j.size;have:=l.size;have:=d.size;omega))).cb a0 (bd.rl (by have:=x.lt;have:=j.size;have:=l.size;have:=d.size;omega))).cb a1 (bd.rl (by have:=V.lt;omega))).cb a2 (bd.rl (by have:=V.lt;omega))).cb bx (bd.rl (by have:=al.lt;omega)))
      refine E.retG1 rfl rfl ?_
      have hnone:¬la.any (badX a.e)=true:=(by rw[<-hinv,ao];simp);have hle:¬a.no<=noOf (getG (sdOf a) la):=(by rw[an];simpa[noOf,noAd]using H);have hrt:¬4<=(lateB (((getG (sdOf a) lw).map (·.xs)).getD []) h).length:=(by rw[D];have:=U;simp only[Option.map_some,Option.map_none,Option.getD_some,Option.getD_none];omega);have b:takeR keys la lw ht a h=0:=(by unfold takeR;rw[if_neg hok,if_neg (by simpa using S),if_neg hnone,if_neg hle,if_neg hrt]);obtain⟨hB,hbz⟩:=hL.put ej bT gA gB (v:=(⟨dQ,((lateB aj.xs h).length+1),dR,((lateB aj.xs h)++[h])⟩:Wh)) (s:=sdOf a) (gC.mono ak.size) (fun k=>getG_put1 D k);exact⟨ej,.inr ⟨b,rfl,_,_,_,_,_,hB,(fun k=>getG_put0 an k),(by rw[D];rfl),(fun k=>getG_put1 D k),hbz⟩⟩
     have bz:=(((((x.le j).cn l (by have:=x.lt;omega)).le (d.trans ae)).ch af (ad.rl (by have:=x.lt;have:=j.size;have:=l.size;have:=d.size;omega))).le o)
     refine Gd rfl (.as (.lookup1 (key:=(sdOf a)) underlying243 ksd z140 rfl rfl bz) (by rw[an]<;>rfl)) ?_
     refine Ga rfl (.field1 (v:= .int .i64 (dC.no)) underlying140 rfl na3 rfl rfl) (Gn 2 rfl (G.nil (E.thenN ?_)))
     by_cases H:a.no<=dC.no
     ·refine Cy rfl (dT H) (Sr (Wn 1 rfl (Nx (Rt (E.blkR (E.thenR ?_))))))
      have gD:=(((V.le ae).ch af (ad.rl (by have:=V.lt;omega))).le o)
      refine E.retG1 rfl rfl ?_
      have hnone:¬la.any (badX a.e)=true:=(by rw[<-hinv,ao];simp);have hle:a.no<=noOf (getG (sdOf a) la):=(by rw[an];simpa[noOf,noAd]using H);have b:takeR keys la lw ht a h=24:=(by unfold takeR;rw[if_neg hok,if_neg (by simpa using S),if_neg hnone,if_pos hle]);exact⟨aw,.inl ⟨by rw[b];decide,by rw[b],hL.same aw aX bz gD⟩⟩
     refine Cn rfl (dF H) (Sr (Wn 1 rfl (Wr (.len underlying23 rfl) rfl (Wn 2 rfl (Nx ?_)))))
     by_cases U:4<=(((lateB aj.xs h).length:Nat):Int)
     ·refine Cy rfl (dT U) (Sr (Wn 1 rfl (Nx (Rt (E.blkR (E.thenR ?_))))))
      have gE:=(((V.le ae).ch af (ad.rl (by have:=V.lt;omega))).le o)
      refine E.retG1 rfl rfl ?_
      have hnone:¬la.any (badX a.e)=true:=(by rw[<-hinv,ao];simp);have hle:¬a.no<=noOf (getG (sdOf a) la):=(by rw[an];simpa[noOf,noAd]using H);have hrt:4<=(lateB (((getG (sdOf a) lw).map (·.xs)).getD []) h).length:=(by rw[D];have:=U;simp only[Option.map_some,Option.map_none,Option.getD_some,Option.getD_none];omega);have b:takeR keys la lw ht a h=20:=(by unfold takeR;rw[if_neg hok,if_neg (by simpa using S),if_neg hnone,if_neg hle,if_pos hrt]);exact⟨aw,.inl ⟨by rw[b];decide,by rw[b],hL.same aw aX bz gE⟩⟩
     refine Cn rfl (dF U) (WC.skip (E.blkN (E.thenN (Sq (WC.drawR (fun ar w'=>ChP w w' (fun k=>k=gp\/k=gn\/k=gw)/\Blk w' gp 246 #[.slice A keys.length c,.map (some gn),.map (some gw),.int .i64 (ht)]/\Blk w' ba 250 (sdV (sdOf a)).toArray/\Blk w' aI 140 (adV a).toArray/\Blk w' aJ 3 #[.int .i64 (h)]) [0,1,2,3,4,5,6,7,8,9,10,11,12,13,16,14,15,17,18,19,20,21,22,23,24,25] mixed (by kernel_rfl) fun ar m=>?_)))))
     have ek:=aw.le m
     have el:=(aX.le m)
     have em:=(bS.le m)
     have en:=(bR.le m)
     have eo:=((bQ.ch af (ad.rl (by have:=L.lt;have:=j.size;have:=l.size;have:=d.size;omega))).le (o.trans m))
     refine⟨⟨ek,el,em,en,eo⟩,?_⟩
     refine GR.any rfl rfl (.move rfl) rfl rfl rfl (GR.any rfl rfl (.nilCheck rfl) rfl rfl rfl (GR.any rfl rfl (.field0 fa246_1 rfl) rfl rfl rfl (GR.rd rfl rfl (fun w' hs=> .loadB (v:= .map (some gn)) na243 rfl hs.2.1 rfl) rfl rfl rfl (GR.rd rfl rfl (fun w' hs=> .loadAll ag250 (by rfl) rfl hs.2.2.1) rfl rfl rfl ?_))))
     refine GR.any rfl rfl (.move rfl) rfl rfl rfl (GR.any rfl rfl (.nilCheck rfl) rfl rfl rfl (GR.any rfl rfl (.field0 fa246_2 rfl) rfl rfl rfl (GR.rd rfl rfl (fun w' hs=> .loadB (v:= .map (some gw)) na244 rfl hs.2.1 rfl) rfl rfl rfl (GR.rd rfl rfl (fun w' hs=> .loadAll ag250 (by rfl) rfl hs.2.2.1) rfl rfl rfl ?_))))
     refine GR.any rfl rfl (.move rfl) rfl rfl rfl (GR.rd rfl rfl (fun w' hs=> .loadAll ag140 (by rfl) rfl hs.2.2.2.1) rfl rfl rfl ?_)
     refine GR.any rfl rfl (.move rfl) rfl rfl rfl (GR.rd rfl rfl (fun w' hs=> .loadB (v:= .int .i64 (h)) na3 rfl hs.2.2.2.2 rfl) rfl rfl rfl (GR.rd rfl rfl (fun w' hs=> .loadB (v:= .int .i64 (h)) na3 rfl hs.2.2.2.2 rfl) rfl rfl rfl (GR.ef rfl rfl rfl rfl rfl (Ef.buildSliceV (len:=1) [_] underlying23 el3 rfl (by simp[Value.cells]) rfl (by decide) (by decide) ?_))))
     intro ep er gF bA aC
     have es:=ek.le aC
     have bA:Blk er ep 3 (([h]).map iv).flatten.toArray:=bA
     have h3:OVec er ar.heap.size 3 iv 1 (some ⟨ep,0,none⟩) 1 1 ([h]):=bA.ovec gF iv_row rfl rfl (by decide)
     have et:=(el.le aC)
     have eu:=(em.le aC)
     have ew:=(en.le aC)
     have ex:=(eo.le aC)
     refine⟨fun _=>⟨es,et,eu,ew,ex⟩,?_⟩
     have aH:=(dB.le (o.trans (m.trans aC)))
     refine GR.ef rfl rfl rfl rfl rfl (Ef.vpush (a:=h) underlying23 el3 underlying23 iv_row rfl aH rfl bA (by omega) (by unfold maxLen;omega) (by have:=ae.size;have:=af.size;have:=o.size;have:=m.size;have:=aC.size;omega) ?_)
     intro ey ez gG be a3 h4
     have eA:ChP w gG (fun k=>k=gp\/k=gn\/k=gw):=es.ch a3 (fun i hi hlt=>absurd hlt (by have:=(aH.row hi).1;have:=ak.size;omega))
     have eB:=(et.ch a3 (aH.rl (by have:=al.lt;omega)))
     have eC:=(eu.ch a3 (aH.rl (by have:=ay.lt;omega)))
     have eD:=(ew.ch a3 (aH.rl (by have:=ai.lt;have:=j.size;have:=l.size;have:=d.size;omega)))
     have eE:=(ex.ch a3 (aH.rl (by have:=L.lt;have:=j.size;have:=l.size;have:=d.size;omega)))
     refine⟨fun _=>⟨eA,eB,eC,eD,eE⟩,?_⟩
     refine GR.ef rfl rfl rfl rfl rfl (Ef.mapEntryG (key:=(sdOf a)) underlying243 ksd rfl rfl ((bz.le (m.trans aC)).ch a3 (aH.rl (by have:=x.lt;have:=j.size;have:=l.size;have:=d.size;omega))) stay_sd an ?_)
     intro gH gI gJ gK a4
     have eF:ChP w gI (fun k=>k=gp\/k=gn\/k=gw):=eA.ch a4 (fun i hi _=>by cases hi;exact Or.inr (Or.inl rfl))
     have eG:=(eB.ch a4 (fun h=>(Ne.symm hL.pn) (oI h)))
     have eH:=(eC.cn a4 (by have:=x.lt;omega))
     have eI:=(eD.cn a4 (by have:=I.lt;omega))
     have eJ:=(eE.cn a4 (by have:=I.lt;have:=C.size;omega))
     refine⟨fun _=>⟨eF,eG,eH,eI,eJ⟩,?_⟩
     refine GR.any rfl rfl (.extract (v:= .int .i64 (((gH:Nat):Int))) rfl rfl) rfl rfl rfl (GR.ef0 rfl rfl rfl rfl (Ef.entryStoreG (key:=(sdOf a)) (u:=a) rfl rfl rfl gK gJ fun gL gM a5=>?_))
     have eK:ChP w gL (fun k=>k=gp\/k=gn\/k=gw):=eF.ch a5 (fun i hi _=>by cases hi;exact Or.inr (Or.inl rfl))
     have eL:=(eG.ch a5 (fun h=>(Ne.symm hL.pn) (oI h)))
     have eM:=(eH.cn a5 (by have:=x.lt;omega))
     have eN:=(eI.cn a5 (by have:=I.lt;omega))
     have eO:=(eJ.cn a5 (by have:=I.lt;have:=C.size;omega))
     refine⟨fun _=>⟨eK,eL,eM,eN,eO⟩,?_⟩
     refine GR.ef rfl rfl rfl rfl rfl (Ef.mapEntryG (key:=(sdOf a)) underlying244 ksd rfl rfl ((((((V.le ae).ch af (ad.rl (by have:=V.lt;omega))).le (o.trans (m.trans aC))).ch a3 (aH.rl (by have:=V.lt;omega))).ch a4 (fun h=>hL.nw (oI h))).ch a5 (fun h=>hL.nw (oI h))) stay_sd D ?_)
     intro gN gO gP gQ a6
     have eP:ChP w gO (fun k=>k=gp\/k=gn\/k=gw):=eK.ch a6 (fun i hi _=>by cases hi;exact Or.inr (Or.inr rfl))
     have eQ:=(eL.ch a6 (fun h=>(Ne.symm hL.pw) (oI h)))
     have eR:=(eM.cn a6 (by have:=J.lt;omega))
     have eS:=(eN.cn a6 (by have:=F.lt;omega))
     have eT:=(eO.cn a6 (by have:=F.lt;have:=C.size;omega))
     refine⟨fun _=>⟨eP,eQ,eR,eS,eT⟩,?_⟩
     refine GR.any rfl rfl (.extract (v:= .int .i64 (((gN:Nat):Int))) rfl rfl) rfl rfl rfl (GR.ef0 rfl rfl rfl rfl (Ef.entryStoreG (key:=(sdOf a)) (u:=(⟨ey,((lateB aj.xs h).length+1),ez,((lateB aj.xs h)++[h])⟩:Wh)) rfl rfl rfl gQ gP fun gR gS a7=>?_))
     have eU:ChP w gR (fun k=>k=gp\/k=gn\/k=gw):=eP.ch a7 (fun i hi _=>by cases hi;exact Or.inr (Or.inr rfl))
     have eV:=(eQ.ch a7 (fun h=>(Ne.symm hL.pw) (oI h)))
     refine⟨fun _=>⟨eU,eV,(eR.cn a7 (by have:=J.lt;omega)),(eS.cn a7 (by have:=F.lt;omega)),(eT.cn a7 (by have:=F.lt;have:=C.size;omega))⟩,?_⟩
     refine GR.any rfl rfl (.nilCheck rfl) rfl rfl rfl (GR.any rfl rfl (.field0 fa246_3 rfl) rfl rfl rfl (GR.ef0 rfl rfl rfl rfl (Ef.store sz3 rfl rfl eV (by first|decide|(simp;done)) (rfl) ?_)))
     intro eW bU bB
     have bU:Blk eW gp 246 #[.slice A keys.length c,.map (some gn),.map (some gw),.int .i64 (h)]:=bU
     have eX:ChP w eW (fun k=>k=gp\/k=gn\/k=gw):=eU.ch bB (fun i hi _=>by cases hi;exact Or.inl rfl)
     refine noT (by kernel_rfl) (GR.nil (E.thenN (Sr (Wn 1 rfl (Nx (Rt ?_))))))
     have gT:=(((gM.ch a6 (fun h=>(Ne.symm hL.nw) (oI h))).ch a7 (fun h=>(Ne.symm hL.nw) (oI h))).ch bB (fun h=>hL.pn (oI h)))
     have gU:=(gS.ch bB (fun h=>hL.pw (oI h)))
     have gV:=(((((be.cb a4 (be.rl (by have:=x.lt;have:=j.size;have:=l.size;have:=d.size;omega))).cb a5 (be.rl (by have:=x.lt;have:=j.size;have:=l.size;have:=d.size;omega))).cb a6 (be.rl (by have:=V.lt;omega))).cb a7 (be.rl (by have:=V.lt;omega))).cb bB (be.rl (by have:=al.lt;omega)))
     refine E.retG1 rfl rfl ?_
     have hnone:¬la.any (badX a.e)=true:=(by rw[<-hinv,ao];simp);have hle:¬a.no<=noOf (getG (sdOf a) la):=(by rw[an];simpa[noOf,noAd]using H);have hrt:¬4<=(lateB (((getG (sdOf a) lw).map (·.xs)).getD []) h).length:=(by rw[D];have:=U;simp only[Option.map_some,Option.map_none,Option.getD_some,Option.getD_none];omega);have b:takeR keys la lw ht a h=0:=(by unfold takeR;rw[if_neg hok,if_neg (by simpa using S),if_neg hnone,if_neg hle,if_neg hrt]);obtain⟨hB,hbz⟩:=hL.put eX bU gT gU (v:=(⟨ey,((lateB aj.xs h).length+1),ez,((lateB aj.xs h)++[h])⟩:Wh)) (s:=sdOf a) (gV.mono ak.size) (fun k=>getG_put1 D k);exact⟨eX,.inr ⟨b,rfl,_,_,_,_,_,hB,(fun k=>getG_put1 an k),(by rw[D];rfl),(fun k=>getG_put1 D k),hbz⟩⟩
    intro ah gW eY a8 t
    have eZ:ChP w gW (fun k=>k=gp\/k=gn\/k=gw):=bJ.ch t (fun i hi hlt=>by cases hi;exact absurd hlt (by have:=bn.size;have:=fe;omega))
    have bC:=unsG_push x.2 eY
    have gX:=bC.length_eq
    rw[List.length_cons]at gX
    refine Wn 1 rfl (Nx (Sq (WC.condT rfl (Sn (WC.block (Sr ?_))))))
    have ax:=(x.cn t (by have:=bI.lt;omega))
    refine W.ef rfl rfl rfl (Ef.entryG (e:=ah) rfl ax a8 (unsG_mem eY) (Wa (.extract (v:= .agg (sdV ah.2.1).toArray) rfl rfl) rfl (Wa (.extract (v:= .agg (adV ah.2.2).toArray) rfl rfl) rfl (W.ef rfl rfl rfl (Ef.allocA z250 ?_)))))
    intro e0 gY gZ bi y
    have e1:=eZ.le y
    have bi:Blk gY e0 250 (sdV noSd).toArray:=bi
    refine W.ef rfl rfl rfl (Ef.allocA z140 fun e2 g0 g1 (g2:Blk g0 e2 140 (adV noAd).toArray) N=>?_)
    have g3:=e1.le N
    refine W.ef0 rfl rfl (Ef.storeAll sz250 (by rfl) rfl rfl (bi.le N) (by simp only[List.size_toArray,sdV_row.len]) (sdV_row.one ah.2.1) ?_)
    intro e3 bV O
    have bV:Blk e3 e0 250 (sdV ah.2.1).toArray:=bV
    have g4:ChP w e3 (fun k=>k=gp\/k=gn\/k=gw):=g3.ch O (fun i hi hlt=>by cases hi;exact absurd hlt (by have:=eZ.size;have:=gZ;omega))
    have g5:=(g2.cn O (by have:=bi.lt;omega))
    refine W.ef0 rfl rfl (Ef.storeAll sz140 (by rfl) rfl rfl g5 (by simp only[List.size_toArray,adV_row.len]) (adV_row.one ah.2.2) ?_)
    intro bW bX P
    have bX:Blk bW e2 140 (adV ah.2.2).toArray:=bX
    have e4:ChP w bW (fun k=>k=gp\/k=gn\/k=gw):=g4.ch P (fun i hi hlt=>by cases hi;exact absurd hlt (by have:=e1.size;have:=g1;omega))
    refine Nx (Sr (Wa (.idxAo (0) underlying250 sz3 rfl rfl (rfl) (by decide)) rfl (Wr (.loadB (v:= .int .i64 (ah.2.1.c)) na3 rfl (bV.cn P (by have:=bi.lt;omega)) rfl) rfl ?_)))
    refine Wa (.field0 fa140_0 rfl) rfl (Wa (.field0 fa81_2 rfl) rfl ?_)
    have bD:=((((ai.cn t (by have:=bl.lt;have:=R.size;omega)).le (y.trans N)).cn O (by have:=ai.lt;have:=t.size;omega)).cn P (by have:=ai.lt;have:=t.size;have:=y.size;omega))
    refine Wr (.loadB (v:= .int .i64 (a.e.c)) na3 rfl bD rfl) rfl (Wn 1 rfl ?_)
    by_cases bj:ah.2.1.c=a.e.c
    ·refine Dt bj rfl rfl (Wg (Any.rd (.field0 fa140_0 rfl) _) rfl (Wg (.bpart (edgeV ah.2.2.e) ag81 rfl (by decide) rfl bX rfl) rfl (Wg (Any.rd (.field0 fa140_0 rfl) _) rfl (Wg (.bpart (edgeV a.e) ag81 rfl (by decide) rfl bD rfl) rfl (W.efg rfl rfl rfl (rfl) rfl rfl ?_)))))
     refine Ef.call go154 rfl rfl (alike_ok ah.2.2.e a.e bW) ?_
     rintro _ h5 ⟨rfl,ap⟩
     refine⟨_,rfl,?_⟩
     have bY:=e4.le ap
     refine Wn 2 rfl (Nx ?_)
     by_cases c3:(alikeE ah.2.2.e a.e)=true
     ·refine Cn rfl (congrArg not (c3)) (WC.skip (E.blkN ?_))
      have g6:=(((((aq.cn t (by have:=bh.lt;omega)).le (y.trans N)).cn O (by have:=aq.lt;have:=t.size;omega)).cn P (by have:=aq.lt;have:=t.size;have:=y.size;omega)).le ap)
      have g7:=(((((a9.cb t (bm.rn (by have:=R.size;omega))).le (y.trans N)).cb O (a9.rn (by have:=t.size;omega))).cb P (a9.rn (by have:=t.size;have:=y.size;omega))).le ap)
      have g8:=((((ax.le (y.trans N)).cn O (by have:=ax.lt;omega)).cn P (by have:=ax.lt;have:=y.size;omega)).le ap)
      have g9:=(((((J.cn t (by have:=F.lt;have:=C.size;have:=X.size;have:=Q.size;have:=K.size;have:=Y.size;have:=Z.size;have:=d3.size;have:=R.size;omega)).le (y.trans N)).cn O (by have:=J.lt;have:=t.size;omega)).cn P (by have:=J.lt;have:=t.size;have:=y.size;omega)).le ap)
      have hc:=(bD.le ap)
      have hd:=(((((L.cn t (by have:=bk.lt;have:=Y.size;have:=Z.size;have:=d3.size;have:=R.size;omega)).le (y.trans N)).cn O (by have:=L.lt;have:=t.size;omega)).cn P (by have:=L.lt;have:=t.size;have:=y.size;omega)).le ap)
      have he:=((((a8.le (y.trans N)).cn O (by have:=a8.lt;omega)).cn P (by have:=a8.lt;have:=y.size;omega)).le ap)
      refine E.again (seen.push ah.1) (.of rfl) ?_ ?_
      ·exact⟨by rw[<-hinv,bC.any_eq,List.any_cons];have hq:badX a.e ah=false:=(by simp[badX,badB,bf,bg,c0,S,bj,c3]);rw[hq,Bool.false_or],bY,by have:=b3;have:=t.size;have:=y.size;have:=N.size;have:=O.size;have:=P.size;have:=ap.size;omega,g6,g7,g8,g9,hc,hd,he⟩
      first|omega|(simp only[];omega)
     refine Cy rfl (congrArg not ((Bool.eq_false_iff.2 c3))) (Sr (Wn 1 rfl (Nx (Rt (E.blkR (E.thenR (E.blkR (E.thenR ?_))))))))
     have hf:=(((((aq.cn t (by have:=bh.lt;omega)).le (y.trans N)).cn O (by have:=aq.lt;have:=t.size;omega)).cn P (by have:=aq.lt;have:=t.size;have:=y.size;omega)).le ap)
     have hg:=((((ax.le (y.trans N)).cn O (by have:=ax.lt;omega)).cn P (by have:=ax.lt;have:=y.size;omega)).le ap)
     have hj:=(((((J.cn t (by have:=F.lt;have:=C.size;have:=X.size;have:=Q.size;have:=K.size;have:=Y.size;have:=Z.size;have:=d3.size;have:=R.size;omega)).le (y.trans N)).cn O (by have:=J.lt;have:=t.size;omega)).cn P (by have:=J.lt;have:=t.size;have:=y.size;omega)).le ap)
     refine E.retG1 rfl rfl ?_
     have hany:la.any (badX a.e)=true:=(by rw[<-hinv,bC.any_eq,List.any_cons];simp[badX,badB,bf,bg,c0,S,bj,c3]);have b:takeR keys la lw ht a h=4:=(by unfold takeR;rw[if_neg hok,if_neg (by simpa using S),if_pos hany]);exact⟨bY,.inl ⟨by rw[b];decide,by rw[b],hL.same bY hf hg hj⟩⟩
    refine Df bj rfl rfl (Wn 7 rfl (Nx (WC.condF rfl (WC.skip (E.blkN ?_)))))
    have hk:=((((aq.cn t (by have:=bh.lt;omega)).le (y.trans N)).cn O (by have:=aq.lt;have:=t.size;omega)).cn P (by have:=aq.lt;have:=t.size;have:=y.size;omega))
    have hn:=((((a9.cb t (bm.rn (by have:=R.size;omega))).le (y.trans N)).cb O (a9.rn (by have:=t.size;omega))).cb P (a9.rn (by have:=t.size;have:=y.size;omega)))
    have ho:=(((ax.le (y.trans N)).cn O (by have:=ax.lt;omega)).cn P (by have:=ax.lt;have:=y.size;omega))
    have hu:=((((J.cn t (by have:=F.lt;have:=C.size;have:=X.size;have:=Q.size;have:=K.size;have:=Y.size;have:=Z.size;have:=d3.size;have:=R.size;omega)).le (y.trans N)).cn O (by have:=J.lt;have:=t.size;omega)).cn P (by have:=J.lt;have:=t.size;have:=y.size;omega))
    have hv:=((((L.cn t (by have:=bk.lt;have:=Y.size;have:=Z.size;have:=d3.size;have:=R.size;omega)).le (y.trans N)).cn O (by have:=L.lt;have:=t.size;omega)).cn P (by have:=L.lt;have:=t.size;have:=y.size;omega))
    have hw:=(((a8.le (y.trans N)).cn O (by have:=a8.lt;omega)).cn P (by have:=a8.lt;have:=y.size;omega))
    refine E.again (seen.push ah.1) (.of rfl) ?_ ?_
    ·exact⟨by rw[<-hinv,bC.any_eq,List.any_cons];have hq:badX a.e ah=false:=(by simp[badX,badB,bf,bg,c0,S,bj]);rw[hq,Bool.false_or],e4,by have:=b3;have:=t.size;have:=y.size;have:=N.size;have:=O.size;have:=P.size;omega,hk,hn,ho,hu,bD,hv,hw⟩
    first|omega|(simp only[];omega)
   refine Cy rfl (congrArg not ((Bool.eq_false_iff.2 S))) (Sr (Wn 1 rfl (Nx (Rt (E.thenR ?_)))))
   have hx:=(bH.le R)
   have hy:=(I.le (C.trans (X.trans (Q.trans (K.trans (Y.trans (Z.trans (d3.trans R))))))))
   have hz:=(F.le (C.trans (X.trans (Q.trans (K.trans (Y.trans (Z.trans (d3.trans R))))))))
   refine E.retG1 rfl rfl ?_
   have b:takeR keys la lw ht a h=7:=(by unfold takeR;rw[if_neg hok,if_pos (by simpa using S)]);exact⟨bn,.inl ⟨by rw[b];decide,by rw[b],hL.same bn hx hy hz⟩⟩
  refine Cy rfl (congrArg not ((Bool.eq_false_iff.2 c0))) ?_
  have hbad:mayA a.e a.no=false\/(keys.length:Int)<=a.e.f\/inB h ht 1048576=false:=by first|(left;simpa using(by assumption:¬mayA a.e a.no=true))|(right;left;assumption)|(right;right;simpa using(by assumption:¬inB h ht 1048576=true))
  refine Sr (Wn 1 rfl (Nx (Rt (E.thenR ?_))))
  have hA:=(f7.le (Y.trans Z))
  have hC:=(I.le (C.trans (X.trans (Q.trans (K.trans (Y.trans Z))))))
  have hD:=(F.le (C.trans (X.trans (Q.trans (K.trans (Y.trans Z))))))
  refine E.retG1 rfl rfl ?_
  have b:takeR keys la lw ht a h=1:=(by unfold takeR;rw[if_pos hbad]);exact⟨bG,.inl ⟨by rw[b];decide,by rw[b],hL.same bG hA hC hD⟩⟩
 refine Ga rfl (.dec (.move rfl) (congrArg not ((Bool.eq_false_iff.2 bf)))) (Gn 20 rfl (G.nil (E.thenN (WC.condT rfl ?_))))
 have hbad:mayA a.e a.no=false\/(keys.length:Int)<=a.e.f\/inB h ht 1048576=false:=by first|(left;simpa using(by assumption:¬mayA a.e a.no=true))|(right;left;assumption)|(right;right;simpa using(by assumption:¬inB h ht 1048576=true))
 refine Sr (Wn 1 rfl (Nx (Rt (E.thenR ?_))))
 have hE:=(bZ.le (C.trans (X.trans (Q.trans K))))
 have hF:=(I.le (C.trans (X.trans (Q.trans K))))
 have hG:=(F.le (C.trans (X.trans (Q.trans K))))
 refine E.retG1 rfl rfl ?_
 have b:takeR keys la lw ht a h=1:=(by unfold takeR;rw[if_pos hbad]);exact⟨L5,.inl ⟨by rw[b];decide,by rw[b],hL.same L5 hE hF hG⟩⟩
end Go.Proofs.YtocheaahlpiajaaGreatDoor

namespace Go.Proofs.YtocheaahlpiajaaGreatDoor
open Tryz
open Go Go.Sx Go.Hsp Go.Num Go.Osp Go.Gsp Go.Asp Go.Bsp
set_option maxRecDepth 20000
def GrownB (w:World)(F F':Nat->Prop):Prop:=∀k,F' k->F k\/w.heap.size<=k
def whOf (lw:WM)(k:Sd):List Int:=((getG k lw).map (·.xs)).getD []
def BPool (w:World)(base gp:Nat)(F:Nat->Prop)(s:BookS):Prop:=∃gn gw A c ca cw la lw,BookL w gp gn gw A c ca cw s.keys la lw s.ht/\GoodB s/\(∀k,getG k la=s.nw k)/\(∀k,whOf lw k=s.wl k)/\(∀k,F k↔BF gp gn gw A c lw k)/\∀k,F k->base<=k
section
variable {w w':World}{base gp:Nat}{F:Nat->Prop}{s:BookS}
theorem BPool.chP {F':Nat->Prop}(h:BPool w base gp F s)(hc:ChP w w' F')(hne:∀k,F k->¬F' k):BPool w' base gp F s:=by
  obtain⟨gn,gw,A,c,ca,cw,la,lw,d,e,f,i,b,j⟩:=h
  exact⟨gn,gw,A,c,ca,cw,la,lw,d.chP hc (fun k hk=>hne k ((b k).2 hk)),e,f,i,b,j⟩
theorem BPool.ch {r:Option Nat}(h:BPool w base gp F s)(hc:Ch w w' r)(hne:∀k,r=some k->¬F k):BPool w' base gp F s:=h.chP (hc.chP (F:=fun k=>r=some k) (fun i hi=>hi)) (fun k hk hr=>hne k hr hk)
theorem BPool.le (h:BPool w base gp F s)(hl:Le w w'):BPool w' base gp F s:=h.chP (hl.chP (fun _=>False)) (fun _ _ hf=>hf)
theorem BPool.lt (h:BPool w base gp F s){k:Nat}(hk:F k):k<w.heap.size:=by
  obtain⟨gn,gw,A,c,ca,cw,la,lw,b,e,f,i,d,j⟩:=h
  exact b.lt ((d k).1 hk)
theorem BPool.good (h:BPool w base gp F s):GoodB s:=by
  obtain⟨gn,gw,A,c,ca,cw,la,lw,d,b,e,f,i,j⟩:=h
  exact b
theorem BPool.old (h:BPool w base gp F s){k:Nat}(hk:F k):base<=k:=by
  obtain⟨gn,gw,A,c,ca,cw,la,lw,d,e,f,i,j,b⟩:=h
  exact b k hk
theorem BPool.size (h:BPool w base gp F s):base<=w.heap.size:=by
  obtain⟨gn,gw,A,c,ca,cw,la,lw,b,f,i,j,d,e⟩:=h
  have:=e gp ((d gp).2 (.inl rfl))
  have:=b.hp.lt
  omega
theorem nodup_len {α:Type}[DecidableEq α]:∀{l m:List α},l.Nodup->(∀x∈l,x∈m)->l.length<=m.length
  |[],m,_,_=>Nat.zero_le _
  |a::l,m,hn,hs=>by
    rw[List.nodup_cons]at hn
    have ha:=hs a List.mem_cons_self
    have b:=nodup_len (l:=l) (m:=m.erase a) hn.2 (fun x hx=>(List.mem_erase_of_ne (fun e=>hn.1 (by rw[<-e];exact hx))).2 (hs x (List.mem_cons_of_mem _ hx)))
    rw[List.length_erase_of_mem ha]at b
    have:=List.length_pos_of_mem ha
    rw[List.length_cons]
    omega
theorem book_few {gn gw c ca cw:Nat}{A:Option Addr}{la:AM}{lw:WM}(h:BookL w gp gn gw A c ca cw s.keys la lw s.ht)(hg:GoodB s)(hn:∀k,getG k la=s.nw k):la.length<=480:=by
  have b:(la.map fun x=>x.2.1).length<=grid.length:=by
    refine nodup_len h.hN.2.keys (fun k hk=>?_)
    obtain⟨x,hx,rfl⟩:=List.mem_map.1 hk
    have d:=getG_of_mem h.hN.2 hx
    rw[hn]at d
    obtain⟨f,i,l,m⟩:=hg.at_ _ _ d
    have e:=edgeA_T (mayA_T i).1
    show x.2.1∈grid
    rw[f]
    exact grid_mem.2 ⟨e.2.2.2.1,e.1⟩
  have j:grid.length=480:=by simp[grid];decide
  rw[List.length_map,j]at b
  exact b
theorem ads_is {gn gw c ca cw:Nat}{A:Option Addr}{la:AM}{lw:WM}(h:BookL w gp gn gw A c ca cw s.keys la lw s.ht)(hg:GoodB s)(hn:∀k,getG k la=s.nw k){zs:List Asp.Ad}(hp:zs.Perm (la.map fun x=>x.2.2))(hw:zs.Pairwise (fun a b=>¬adLt b a)):adsB s=zs:=by
  have hat:∀x∈la,x.2.1=sdOf x.2.2/\s.nw x.2.1=some x.2.2:=fun x hx=>by
    have d:=getG_of_mem h.hN.2 hx
    rw[hn]at d
    exact⟨(hg.at_ _ _ d).1,d⟩
  refine adsB_eq hg ⟨?_,fun x=>?_⟩
  · have hnd:(zs.map sdOf).Nodup:=by
      have i:(la.map fun x=>x.2.2).map sdOf=la.map fun x=>x.2.1:=by
        rw[List.map_map]
        apply List.map_congr_left
        intro x hx
        exact(hat x hx).1.symm
      exact((hp.map sdOf).nodup_iff).2 (by rw[i];exact h.hN.2.keys)
    have d:zs.Pairwise (fun a b=>sdOf a≠sdOf b):=by
      have:=hnd
      unfold List.Nodup at this
      rw[List.pairwise_map]at this
      exact this
    refine(hw.and d).imp (fun{a b} hh=>?_)
    obtain⟨l,j⟩:=hh
    unfold adLt sdLt at*
    have:¬((sdOf a).c=(sdOf b).c/\(sdOf a).f=(sdOf b).f):=fun e=>j (by cases ea:sdOf a;cases eb:sdOf b;rw[ea,eb]at e;simp only at e;rw[e.1,e.2])
    omega
  · rw[hp.mem_iff,List.mem_map]
    constructor
    · rintro⟨y,hy,rfl⟩
      rw[<-(hat y hy).1]
      exact(hat y hy).2
    · intro hx
      rw[<-hn]at hx
      obtain⟨b,hb⟩:=getG_mem hx
      exact⟨_,hb,rfl⟩
theorem takeR_C {la:AM}{lw:WM}{ck:Nat}(hw:WfG la ck)(hn:∀k,getG k la=s.nw k)(hl:∀k,whOf lw k=s.wl k)(a:Asp.Ad)(h:Int):takeR s.keys la lw s.ht a h=takeC s a h:=by
  have ht:la.any (badX a.e)=true↔Twice s.nw a.e:=by
    rw[List.any_eq_true]
    constructor
    · rintro⟨x,hx,hb⟩
      exact⟨x.2.1,x.2.2,by rw[<-hn];exact getG_of_mem hw hx,hb⟩
    · rintro⟨k,x,hx,hb⟩
      rw[<-hn]at hx
      obtain⟨b,hm⟩:=getG_mem hx
      exact⟨_,hm,hb⟩
  unfold takeR takeC
  by_cases c:mayA a.e a.no=false\/(s.keys.length:Int)<=a.e.f\/inB h s.ht 1048576=false
  · rw[if_pos c,if_pos c]
  rw[if_neg c,if_neg c]
  by_cases d:verifyA (s.keys.getD a.e.f.toNat 0) a=false
  · rw[if_pos d,if_pos d]
  rw[if_neg d,if_neg d]
  by_cases i:Twice s.nw a.e
  · rw[if_pos i,if_pos (ht.2 i)]
  rw[if_neg i,if_neg (fun hh=>i (ht.1 hh)),hn]
  show(if _ then _ else if 4<=(lateB (whOf lw (sdOf a)) h).length then _ else _)=_
  rw[hl]
theorem new_book {Ak:Option Addr}{nk ck:Nat}{keys:List Nat}(w:World)(hV:Vec w pv1 1 Ak nk keys)(hn:nk<=12)(hb:∀k∈keys,k<18446744073709551616):Calls prog 63 #[.slice Ak nk ck] w fun r w'=>∃gp F,r= .returned (.pointer (some ⟨gp,0,none⟩))/\BPool w' w.heap.size gp F (bookN keys)/\Le w w':=by
  refine Calls.mono (bnew_ok w hV) ?_
  rintro r w' (⟨q,_⟩|⟨q,gp,gn,gw,A,c,rfl,hL,hk,hl⟩)
  · omega
  · exact⟨gp,BF gp gn gw A c [],rfl,⟨gn,gw,A,c,0,0,[],[],hL,bookN_good (by rw[hV.1];exact hn) hb,fun _=>rfl,fun _=>rfl,fun _=>Iff.rfl,hk⟩,hl⟩
theorem take_book (a:Asp.Ad)(h:Int)(hr:a.sg.r<18446744073709551616)(hB:BPool w base gp F s):Calls prog 65 #[.pointer (some ⟨gp,0,none⟩),.agg (adV a).toArray,.int .i64 h] w fun r w'=>∃F',r= .returned (.int .i64 (takeC s a h))/\BPool w' base gp F' (takeS s a h)/\GrownB w F F'/\ChP w w' F:=by
  have hsz:=hB.size
  obtain⟨gn,gw,A,c,ca,cw,la,lw,l,d,j,f,b,m⟩:=hB
  have hR:=takeR_C l.hN.2 j f a h
  have x:∀k v,getG k lw=some v->v.xs.length<=4:=fun k v hv=>by
    have:=d.wlL k
    rw[<-f k]at this
    unfold whOf at this
    rw[hv]at this
    exact this
  refine Calls.mono (btake_ok a h w l hr d.keysB d.htB.1 (by have:=d.keysL;omega) x) ?_
  rintro r w' ⟨hc,hr⟩
  rw[hR]at hr
  have n:ChP w w' F:=hc.mono (fun k hk _=>(b k).2 (by rcases hk with hk|hk|hk;exact .inl hk;exact .inr (.inl hk);exact .inr (.inr (.inl hk))))
  rcases hr with⟨i,rfl,hL⟩|⟨i,rfl,ca',cw',la',lw',v,hL,y,z,o,C⟩
  · have e:takeS s a h=s:=if_neg i
    rw[e]
    exact⟨F,rfl,⟨gn,gw,A,c,ca,cw,la,lw,hL,d,j,f,b,m⟩,fun k hk=> .inl hk,n⟩
  · have e:takeS s a h=putB s a h:=if_pos i
    have hgr:∀k,BF gp gn gw A c lw' k->F k\/w.heap.size<=k:=by
      rintro k (hk|hk|hk|hk|⟨t,u,hu,hk⟩)
      · exact .inl ((b k).2 (.inl hk))
      · exact .inl ((b k).2 (.inr (.inl hk)))
      · exact .inl ((b k).2 (.inr (.inr (.inl hk))))
      · exact .inl ((b k).2 (.inr (.inr (.inr (.inl hk)))))
      · rw[o]at hu
        split at hu
        · cases hu;exact .inr (C k hk)
        · exact .inl ((b k).2 (.inr (.inr (.inr (.inr ⟨t,u,hu,hk⟩)))))
    rw[e,i]
    refine⟨BF gp gn gw A c lw',rfl,⟨gn,gw,A,c,ca',cw',la',lw',hL,putB_good d i,fun k=>?_,fun k=>?_,fun _=>Iff.rfl,fun k hk=>?_⟩,hgr,n⟩
    · show _=if k=sdOf a then some a else s.nw k
      rw[y,j]
    · show _=if k=sdOf a then lateB (s.wl k) h++[h]else s.wl k
      unfold whOf
      rw[o]
      by_cases ek:k=sdOf a
      · rw[if_pos ek,if_pos ek,ek,<-f (sdOf a)]
        exact z
      · rw[if_neg ek,if_neg ek]
        exact f k
    · rcases hgr k hk with hh|hh
      · exact m k hh
      · omega
theorem ads_book (h:BPool w base gp F s):Calls prog 158 #[.pointer (some ⟨gp,0,none⟩)] w fun r w'=>∃(A:Option Addr) (c:Nat),r= .returned (.slice A (adsB s).length c)/\OVec w' w.heap.size 140 adV 13 A (adsB s).length c (adsB s)/\Le w w':=by
  obtain⟨gn,gw,A,c,ca,cw,la,lw,b,d,f,i,j,k⟩:=h
  refine Calls.mono (bads_ok w b (by have:=book_few b d f;omega)) ?_
  rintro r w' ⟨A',c',zs,rfl,hp,hw,ho,hl⟩
  have e:=ads_is b d f hp hw
  have el:la.length=zs.length:=by rw[hp.length_eq,List.length_map]
  rw[e]
  exact⟨A',c',by rw[el],ho.cast el rfl,hl⟩
theorem get_book (ch fr:Int)(h:BPool w base gp F s):Calls prog 69 #[.pointer (some ⟨gp,0,none⟩),.int .i64 ch,.int .i64 fr] w fun r w'=>r= .returned (.tuple #[.agg (adV ((s.nw (Bsp.Sd.mk ch fr)).getD noAd)).toArray,.bool (s.nw (Bsp.Sd.mk ch fr)).isSome])/\Le w w':=by
  obtain⟨gn,gw,A,c,ca,cw,la,lw,b,e,d,f,i,j⟩:=h
  rw[<-d]
  exact bget_ok ch fr w b
theorem edges_next {l:List Asp.Ad}{k:Nat}(h:k<l.length):(((l.take (k+1)).filter fun a=> !a.gone).map (·.e))=((l.take k).filter fun a=> !a.gone).map (·.e)++if(l.getD k noAd).gone then[]else[(l.getD k noAd).e]:=by
  rw[List.take_add_one,getS l noAd h,List.filter_append,List.map_append]
  congr 1
  simp only[Option.toList]
  cases e:(l.getD k noAd).gone<;>simp[List.filter_cons,e,-List.getD_eq_getElem?_getD]
end
theorem edges_book {base gp:Nat}{F:Nat->Prop}{s:BookS}(w:World)(hB:BPool w base gp F s):Calls prog 66 #[.pointer (some ⟨gp,0,none⟩)] w fun r w'=>∃(A:Option Addr) (c:Nat),r= .returned (.slice A (edgesB s).length c)/\OVec w' w.heap.size 81 edgeV 9 A (edgesB s).length c (edgesB s)/\Le w w':=by
 have hal:=adsB_len s
 refine enter func66 rfl rfl (Sr (Wn 1 rfl (Nx (Sr (Wn 1 rfl (Nx (Sq (Sr (Wn 1 rfl (W.cl go158 rfl rfl (ads_book (s:=s) hB) ?_))))))))))
 rintro _ h ⟨H,I,rfl,x,J⟩
 have y:=(Le.refl w).trans J
 refine Wr (.len underlying132 rfl) rfl (Wn 1 rfl (Nx (WC.block (WC.loop (ι:=Nat×Nat×(Option Addr)×Nat×(List Gsp.Edge)) (fun⟨k,m,Ao,co,out⟩=>[(3,.slice Ao m co),(7,.slice H ((adsB s).length) I),(8,.int .i64 ((((adsB s).length:Nat):Int))),(9,.int .i64 (((k:Nat):Int)))]) (fun⟨k,m,Ao,co,out⟩ f=>(k<=(adsB s).length)/\(m<=k)/\(out=((((adsB s).take k).filter fun a=> !a.gone).map (·.e)))/\Le w f/\h.heap.size<=f.heap.size/\OVec f h.heap.size 81 edgeV 9 Ao m co out/\OVec f w.heap.size 140 adV 13 H ((adsB s).length) I (adsB s)) (fun⟨k,m,Ao,co,out⟩=>(adsB s).length-k) (0,0,none,0,[]) ?_ ?_ ?_))))
 ·exact .of rfl
 ·exact⟨Nat.zero_le _,Nat.le_refl _,by simp,y,Nat.le_refl _,(OVec.nil h h.heap.size 81 edgeV 9 none),x⟩
 rintro⟨k,m,Ao,co,out⟩ f ⟨hk,hm,hout,z,K,i,j⟩
 have R:h.heap.size<=f.heap.size:=by omega
 have ac:w.heap.size<=f.heap.size:=by have:=J.size;omega
 refine Sr (Wn 1 rfl (Nx (Sq ?_)))
 by_cases n:((k:Nat):Int)<(((adsB s).length:Nat):Int)
 ·refine Cy rfl (dT n) (Sn (Sq (WC.block (Sr (Wa (.idxS (k) underlying132 sz140 rfl rfl (x.vec.isSome adV_row (by omega)) (rfl) (by omega)) rfl (Wr (.vload ag140 rfl j.vec adV_row (getS (adsB s) noAd (by first|omega|(simp only[List.length_cons,List.length_nil];omega)))) rfl ?_))))))
  refine W.ef rfl rfl rfl (Ef.allocA z140 fun L S T (U:Blk S L 140 (adV noAd).toArray) b=>(W.ef0 rfl rfl (Ef.storeAll sz140 (by rfl) rfl rfl U (by simp only[List.size_toArray,adV_row.len]) (adV_row.one ((adsB s).getD k noAd)) ?_)))
  intro N o d
  have o:Blk N L 140 (adV ((adsB s).getD k noAd)).toArray:=o
  have O:=(z.trans b).tb d z T
  refine Nx (Sr (Wa (.field0 fa140_2 rfl) rfl (Wr (.loadB (v:= .bool (((adsB s).getD k noAd).gone)) na4 rfl o rfl) rfl (Wn 1 rfl (Nx ?_)))))
  by_cases t:(((adsB s).getD k noAd).gone)=true
  ·refine Cn rfl (congrArg not (t)) (WC.skip (E.blkN (E.thenN (WC.region (Wa (.add rfl rfl (by omega)) rfl (Wn 1 rfl (W.nil ?_)))))))
   have V:=((i.le b).cb d (i.rn (by omega)))
   have X:=((j.le b).cb d (j.rn (by omega)))
   refine E.again (k+1,m,Ao,co,out) (.of rfl) ?_ ?_
   ·exact⟨by omega,by omega,by rw[edges_next (by omega),<-hout];simp[-List.getD_eq_getElem?_getD,n,t],O,by have:=K;have:=b.size;have:=d.size;omega,V,X⟩
   first|omega|(simp only[];omega)
  refine Cy rfl (congrArg not ((Bool.eq_false_iff.2 t))) (WC.region (Wn 1 rfl (Wa (.field0 fa140_0 rfl) rfl (Wr (.bpart (edgeV (((adsB s).getD k noAd).e)) ag81 rfl (by decide) rfl o rfl) rfl (W.ef rfl rfl rfl (Ef.buildSliceV (len:=1) [_] underlying32 el81 rfl (by simp[Value.cells,edgeV_row.len]) rfl (by decide) (by decide) ?_))))))
  intro P Q Y u l
  have u:Blk Q P 81 (([((adsB s).getD k noAd).e]).map edgeV).flatten.toArray:=u
  have ad:OVec Q N.heap.size 81 edgeV 9 (some ⟨P,0,none⟩) 1 1 ([((adsB s).getD k noAd).e]):=u.ovec Y edgeV_row rfl rfl (by decide)
  have C:=(((i.le b).cb d (i.rn (by omega))).le l)
  refine W.ef rfl rfl rfl (Ef.vpush (a:=(((adsB s).getD k noAd).e)) underlying32 el81 underlying32 edgeV_row rfl C rfl u (by omega) (by unfold maxLen;omega) (by have:=R;have:=b.size;have:=d.size;have:=l.size;omega) ?_)
  intro Z aa ae ab D af
  have L8:=(O.trans l).then_ D (fun q hq=>Nat.le_trans y.size (C.row hq).1)
  refine Wn 1 rfl (W.nil (E.blkN (E.thenN (WC.region (Wa (.add rfl rfl (by omega)) rfl (Wn 1 rfl (W.nil ?_)))))))
  have f9:=((((j.le b).cb d (j.rn (by omega))).le l).ch D ((Apart.symm (fun q h1 h2=>by have:=(x.row h1).2;have:=(C.row h2).1;omega))))
  refine E.again (k+1,(m+1),Z,aa,(out++[((adsB s).getD k noAd).e])) (.of rfl) ?_ ?_
  ·exact⟨by omega,by omega,by rw[edges_next (by omega),<-hout];simp[-List.getD_eq_getElem?_getD,n,t],L8,by have:=K;have:=b.size;have:=d.size;have:=l.size;have:=D.size;omega,ab,f9⟩
  first|omega|(simp only[];omega)
 refine Cn rfl (dF n) (WC.exit (E.thenX (E.thenX (E.blkH (E.thenN (Sr (Wn 2 rfl (Nx (Rt (E.retG1 rfl rfl ?_))))))))))
 have hz:out=edgesB s:=(by rw[hout,List.take_of_length_le (by omega)];rfl);have hq:=(i.mono y.size);have hml:=hq.1;rw[hz]at hq hml;exact⟨_,_,by rw[hml],hq.cast hml.symm rfl,z⟩
end Go.Proofs.YtocheaahlpiajaaGreatDoor

