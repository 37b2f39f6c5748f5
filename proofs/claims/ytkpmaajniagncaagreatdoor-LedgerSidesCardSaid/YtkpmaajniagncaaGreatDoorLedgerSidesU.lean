/- LedgerSides: for every input the law answers true and leaves its arguments as they were. -/
import Derived.Test.YtkpmaajniagncaaGreatDoorLedgerSidesT
import Derived.ProofKit
import Derived.OpenShut
import Derived.ShutString
import Derived.ChangeOld
import Derived.Below
import Derived.Deep.Slices
set_option linter.defProp false
set_option linter.unusedVariables false
set_option linter.unusedSimpArgs false
namespace Go.Sx
open Go Go.ChangeShapes Go.WideShapes Go.Deep
variable {H:Type}{enc:TypeId×Value->H}{P:Program}{w:World}{base:Nat}{spare:Nat->Bool}{held:Bool}{α:Type}{k:Nat}{f:α->List Value}
theorem zG:∀(qs:List α),(∀q∈qs,(f q).length=k)->∀(j:Nat) (u:Value),((qs.map f).flatten)[j]? =some u->0<k/\∃q,qs[j/k]? =some q/\(f q)[j%k]? =some u
 |[],_,j,u,h=>by simp at h
 |q::qs,hk,j,u,h=>by
  have hq:=hk q (by simp)
  simp only[List.map_cons,List.flatten_cons]at h
  by_cases hj:j<k
  ·rw[List.getElem?_append_left (by omega)]at h
   exact⟨by omega,q,by simp[Nat.div_eq_of_lt hj],by rw[Nat.mod_eq_of_lt hj];exact h⟩
  ·rw[List.getElem?_append_right (by omega),hq]at h
   obtain⟨hp,r,c,d⟩:=zG qs (fun q hq=>hk q (by simp[hq])) (j-k) u h
   have hd:j/k=(j-k)/k+1:=by rw[Nat.div_eq_sub_div hp (by omega)]
   have hm:j%k=(j-k)%k:=Nat.mod_eq_sub_mod (by omega)
   exact⟨hp,r,by rw[hd];simpa using c,by rw[hm];exact d⟩
theorem vo:∀(qs:List α),(∀q∈qs,(f q).length=k)->((qs.map f).flatten).length=qs.length*k
 |[],_=>by simp
 |q::qs,hk=>by
  have:=vo qs (fun q hq=>hk q (by simp[hq]))
  simp only[List.map_cons,List.flatten_cons,List.length_append,List.length_cons,this,hk q (by simp)]
  rw[Nat.add_mul,Nat.one_mul,Nat.add_comm]
theorem Vk [Inhabited α]{f:α->List Value}{good:α->Prop}{t e:TypeId}{k:Nat}{r:Reach}{b0:Nat}{v:Value}{d:DataW H}{ps:List MemPlace}
  (ht:P.underlying t=some (.slice e))(hc:P.cellsOf e=k)(hp:∀fuel cs x,DataW.trod enc P w base spare held fuel e cs=some x->∃q,cs=f q/\good q)
  (hval:Value.okWide P w r b0 t v)(hd:DataW.Trod enc P w base spare held t v d ps):
  ∃(A:Option Addr) (n c:Nat) (qs:List α),v= .slice A n c/\qs.length=n/\(∀q∈qs,good q/\(f q).length=k)/\Sl w k A n (qs.map f).flatten/\n<=c/\c<=maxLen:=by
 obtain⟨A,n,c,rfl⟩:=okWide_slice ht hval
 obtain⟨fuel,hf⟩:=hd
 rcases open_slice ht hf with⟨hcs,_⟩|⟨a,len,cap,m,n',D,Pl,hcs,hb,hl,hm,hmm,hx,hi⟩
 ·simp[Value.cells]at hcs
  obtain⟨rfl,rfl,rfl⟩:=hcs
  exact⟨none,0,0,[],rfl,rfl,fun q hq=>by simp at hq,⟨by simp,fun j u h=>by simp at h⟩,Nat.le_refl _,Nat.zero_le _⟩
 ·simp[Value.cells]at hcs
  obtain⟨rfl,rfl,rfl⟩:=hcs
  have hlm:n<=m:=by rw[hmm];split<;>omega
  obtain⟨Q,hQ⟩:=choose_lt (α:=α) (p:=fun i q=>w.cells? base (a.add (i*k)) k=some (f q)/\good q) (n:=m) (fun i hi'=>by
   obtain⟨cs',l,o⟩:=hi i hi'
   obtain⟨q,rfl,hg⟩:=hp _ _ _ o
   rw[hc]at l
   exact⟨q,l,hg⟩)
  have hall:∀q∈(List.range n).map Q,good q/\(f q).length=k:=by
   intro q hq
   obtain⟨i,hi',rfl⟩:=List.mem_map.1 hq
   have hin:i<n:=List.mem_range.1 hi'
   obtain⟨l,o⟩:=hQ i (by omega)
   exact⟨o,(World.cells?_some l).2.1⟩
  refine⟨some a,n,c,(List.range n).map Q,rfl,by simp,hall,⟨?_,?_⟩,hl,hm⟩
  ·rw[vo _ (fun q hq=>(hall q hq).2)];simp
  ·intro j u hu
   obtain⟨s,q,l,o⟩:=zG (k:=k) _ (fun q hq=>(hall q hq).2) j u hu
   have hjn:j/k<n:=by
    have:=(List.getElem?_eq_some_iff.1 l).1
    simpa using this
   rw[List.getElem?_map,List.getElem?_range hjn]at l
   simp at l
   subst l
   obtain⟨y,_⟩:=hQ (j/k) (by omega)
   obtain⟨_,hlen,hcell⟩:=World.cells?_some y
   refine⟨a,rfl,?_⟩
   have:=hcell (j%k) (Nat.mod_lt _ s)
   rw[o,add_add,show j/k*k+j%k=j by rw[Nat.mul_comm];exact Nat.div_add_mod j k]at this
   exact this
theorem agY {n:Int}(h:(Lit.int .u8 n).wf=true):Value.int .u8 n=jf (BitVec.ofInt 8 n):=by
 have:=bounds_u8 h
 unfold jf
 rw[BitVec.toNat_ofInt]
 congr 1
 omega
variable {e:TypeId}
theorem abV (he:P.underlying e=some (.int .u8)):∀fuel cs x,DataW.trod enc P w base spare held fuel e cs=some x->∃q:BitVec 8,cs=[jf q]/\True:=by
 intro fuel cs x h
 obtain⟨n,rfl,_,hw⟩:=DataW.trod_int he h
 exact⟨_,by rw[agY hw],trivial⟩
variable {t:TypeId}
theorem QL (ht:P.underlying t=some (.array k e))(he:P.underlying e=some (.int .u8))(hc:P.cellsOf e=1)(hct:P.cellsOf t=k):
  ∀fuel cs x,DataW.trod enc P w base spare held fuel t cs=some x->∃q:List (BitVec 8),cs=q.map jf/\q.length=k:=by
 intro fuel cs x h
 obtain⟨xs,m,rfl,_,hl,hxl,hi⟩:=DataW.trod_array ht h
 rw[hct]at hl
 obtain⟨Q,hQ⟩:=choose_lt (α:=BitVec 8) (p:=fun i q=>cs[i]? =some (jf q)) (n:=k) (fun i hi'=>by
  have:=hi i hi'
  rw[List.getElem?_eq_getElem (by omega)]at this
  obtain⟨q,hq,_⟩:=abV he _ _ _ this
  rw[hc,Nat.mul_one]at hq
  refine⟨q,?_⟩
  have c:((cs.drop i).take 1)[0]? =cs[i]? :=by simp[List.getElem?_drop]
  rw[<-c,hq];rfl)
 refine⟨(List.range k).map Q,?_,by simp⟩
 apply List.ext_getElem?
 intro i
 by_cases hik:i<k
 ·rw[hQ i hik];simp[hik]
 ·rw[List.getElem?_eq_none (by omega),List.getElem?_eq_none (by simp;omega)]
variable {H:Type}{enc:TypeId×Value->H}{P:Program}{w:World}{base:Nat}{spare:Nat->Bool}{held:Bool}
theorem yB (cs:List α)(o s:Nat):cs.drop o=(cs.drop o).take s++cs.drop (o+s):=by
 rw[<-List.drop_drop]
 exact(List.take_append_drop s (cs.drop o)).symm
theorem aeg (cs:List α):cs=cs.drop 0:=Z
theorem aeh {cs:List α}{n:Nat}(h:cs.length=n):cs.drop n=[]:=List.drop_eq_nil_of_le (by omega)
variable {fs:Array Field}
theorem zH {fuel:Nat}{cs:List Value}{x:DataW H×List MemPlace}(ht:P.underlying t=some (.struct fs))(h:DataW.trod enc P w base spare held fuel t cs=some x):
  cs.length=P.cellsOf t/\∃m,∀(i:Nat) (f:Field),fs[i]? =some f->∃y,DataW.trod enc P w base spare held m f.type ((cs.drop f.offset).take (P.cellsOf f.type))=some y:=by
 obtain⟨xs,m,_,_,hl,hxl,hi⟩:=DataW.trod_struct ht h
 refine⟨hl,m,fun i f hf=>?_⟩
 have hlt:i<xs.length:=by rw[hxl];exact(Array.getElem?_eq_some_iff.1 hf).1
 exact⟨_,(hi i f hf).trans (List.getElem?_eq_getElem hlt)⟩
theorem Zq [Inhabited α]{f:α->List Value}{good:α->Prop}{t e:TypeId}{k:Nat}{r:Reach}{b0:Nat}{v:Value}{d:DataW H}{ps:List MemPlace}(ht:P.underlying t=some (.slice e))(hc:P.cellsOf e=k)(hp:∀fuel cs x,DataW.trod enc P w base spare held fuel e cs=some x->∃q,cs=f q/\good q)
  (hval:Value.okWide P w r b0 t v)(hd:DataW.Trod enc P w base spare held t v d ps):∃A n c,∃xs:List α,v= .slice A n c/\(Vec w f k A n xs/\∀h∈xs,good h)/\n<=c/\c<=9223372036854775807:=by
 obtain⟨A,n,c,qs,rfl,i,j,l,m,o⟩:=Vk (α:=α) (f:=f) (good:=good) ht hc hp hval hd
 exact⟨A,n,c,qs,rfl,⟨⟨i,l⟩,fun q hq=>(j q hq).1⟩,m,by unfold maxLen at o;omega⟩
variable {b0:Nat}{v:Value}
theorem Jd {r:Reach}(ht:P.underlying t=some (.struct fs))(h:Value.okWide P w r b0 t v):∃cs:Array Value,v= .agg cs:=by
 simp only[Value.okWide,ht]at h
 obtain⟨cs,c,_⟩:=h
 exact⟨cs,c⟩
theorem O0 {good:α->Prop}{r:Reach}{d:DataW H}{ps:List MemPlace}(ht:P.underlying t=some (.struct fs))(hp:∀fuel cs x,DataW.trod enc P w base spare held fuel t cs=some x->∃q,cs=f q/\good q)
  (hval:Value.okWide P w r b0 t v)(hd:DataW.Trod enc P w base spare held t v d ps):∃q:α,v= .agg (f q).toArray/\good q:=by
 obtain⟨cs,rfl⟩:=Jd ht hval
 obtain⟨fuel,h⟩:=hd
 obtain⟨q,e,hg⟩:=hp _ _ _ h
 refine⟨q,?_,hg⟩
 congr 1
 apply Array.ext'
 exact e
end Go.Sx
namespace Go.Proofs.YtkpmaajniagncaaGreatDoor
open Go Go.Sx Go.ChangeShapes Go.WideShapes Go.Deep
variable {H:Type}{enc:TypeId×Value->H}{w:World}{base:Nat}{spare:Nat->Bool}{held:Bool}{P:Program}{α:Type}
theorem Vl [Inhabited α]{f:α->List Value}{good:α->Prop}{t e:TypeId}{k:Nat}
  (ht:P.underlying t=some (.slice e))(hc:P.cellsOf e=k)(hp:∀fuel cs x,DataW.trod enc P w base spare held fuel e cs=some x->∃q,cs=f q/\good q):
  ∀fuel cs x,DataW.trod enc P w base spare held fuel t cs=some x->∃(A:Option Addr) (n c:Nat) (qs:List α),cs=[.slice A n c]/\qs.length=n/\(∀q∈qs,good q/\(f q).length=k)/\Sl w k A n (qs.map f).flatten/\n<=c/\c<=maxLen:=by
 intro fuel cs x hf
 obtain⟨d,ps⟩:=x
 rcases open_slice ht hf with⟨hcs,_⟩|⟨a,len,cap,m,n',D,Pl,hcs,hb,hl,hm,hmm,hx,hi⟩
 ·exact⟨none,0,0,[],hcs,rfl,fun q hq=>by simp at hq,⟨by simp,fun j u h=>by simp at h⟩,Nat.le_refl _,Nat.zero_le _⟩
 ·have hlm:len<=m:=by rw[hmm];split<;>omega
  obtain⟨Q,hQ⟩:=choose_lt (α:=α) (p:=fun i q=>w.cells? base (a.add (i*k)) k=some (f q)/\good q) (n:=m) (fun i hi'=>by
   obtain⟨cs',l,o⟩:=hi i hi'
   obtain⟨q,rfl,hg⟩:=hp _ _ _ o
   rw[hc]at l
   exact⟨q,l,hg⟩)
  have hall:∀q∈(List.range len).map Q,good q/\(f q).length=k:=by
   intro q hq
   obtain⟨i,hi',rfl⟩:=List.mem_map.1 hq
   have hin:i<len:=List.mem_range.1 hi'
   obtain⟨l,o⟩:=hQ i (by omega)
   exact⟨o,(World.cells?_some l).2.1⟩
  refine⟨some a,len,cap,(List.range len).map Q,hcs,by simp,hall,⟨?_,?_⟩,hl,hm⟩
  ·rw[vo _ (fun q hq=>(hall q hq).2)];simp
  ·intro j u hu
   obtain⟨s,q,l,o⟩:=zG (k:=k) _ (fun q hq=>(hall q hq).2) j u hu
   have hjn:j/k<len:=by
    have:=(List.getElem?_eq_some_iff.1 l).1
    simpa using this
   rw[List.getElem?_map,List.getElem?_range hjn]at l
   simp at l
   subst l
   obtain⟨v,_⟩:=hQ (j/k) (by omega)
   obtain⟨_,hlen,hcell⟩:=World.cells?_some v
   refine⟨a,rfl,?_⟩
   have:=hcell (j%k) (Nat.mod_lt _ s)
   rw[o,Sx.add_add,show j/k*k+j%k=j by rw[Nat.mul_comm];exact Nat.div_add_mod j k]at this
   exact this
open Tryz
open Go.Gz Go.Lsp Go.JQ
set_option maxRecDepth 20000
variable {H:Type}{enc:TypeId×Value->H}{w:World}{base:Nat}{spare:Nat->Bool}{held:Bool}{e:TypeId}
theorem zI (he:P.underlying e=some (.int .u8)):∀fuel cs x,DataW.trod enc P w base spare held fuel e cs=some x->∃q:Nat,cs=[.int .u8 (q:Int)]/\q<256:=by
 intro fuel cs x h
 obtain⟨n,rfl,_,hw⟩:=DataW.trod_int he h
 have:=bounds_u8 hw
 exact⟨n.toNat,by rw[show(n.toNat:Int)=n by omega],by omega⟩
theorem Az (he:P.underlying e=some (.int .u16)):∀fuel cs x,DataW.trod enc P w base spare held fuel e cs=some x->∃q:Nat,cs=[.int .u16 (q:Int)]/\q<65536:=by
 intro fuel cs x h
 obtain⟨n,rfl,_,hw⟩:=DataW.trod_int he h
 have:=bounds_u16 hw
 exact⟨n.toNat,by rw[show(n.toNat:Int)=n by omega],by omega⟩
theorem KG (he:P.underlying e=some (.int .u64)):∀fuel cs x,DataW.trod enc P w base spare held fuel e cs=some x->∃q:Nat,cs=[.int .u64 (q:Int)]/\q<18446744073709551616:=by
 intro fuel cs x h
 obtain⟨n,rfl,_,hw⟩:=DataW.trod_int he h
 have:=bounds_u64 hw
 exact⟨n.toNat,by rw[show(n.toNat:Int)=n by omega],by omega⟩
theorem O1 {n:Int}(h:(Lit.int .u32 n).wf=true):0<=n/\n<=4294967295:=by
 simpa[Lit.wf,IntKind.min,IntKind.max,IntKind.signed,IntKind.bits]using h
theorem KH (he:P.underlying e=some (.int .u32)):∀fuel cs x,DataW.trod enc P w base spare held fuel e cs=some x->∃q:Nat,cs=[.int .u32 (q:Int)]/\q<4294967296:=by
 intro fuel cs x h
 obtain⟨n,rfl,_,hw⟩:=DataW.trod_int he h
 have:=O1 hw
 exact⟨n.toNat,by rw[show(n.toNat:Int)=n by omega],by omega⟩
theorem O3:∀fuel cs x,DataW.trod enc prog w base spare held fuel 23 cs=some x->∃q:List Byte,cs=jV q/\q.length=32:=by
 intro fuel cs x h
 obtain⟨q,e,hl⟩:=QL (P:=prog) underlying23 underlying5 (by kernel_rfl) (by kernel_rfl) _ _ _ h
 exact⟨q,by rw[e,kF hl],hl⟩
theorem Zt {f:α->List Value}{good:α->Prop}{t:TypeId}{k:Nat}(ht:P.underlying t=some (.array 2 e))(hc:P.cellsOf e=k)(hct:P.cellsOf t=2*k)(hp:∀fuel cs x,DataW.trod enc P w base spare held fuel e cs=some x->∃q:α,cs=f q/\good q):
  ∀fuel cs x,DataW.trod enc P w base spare held fuel t cs=some x->∃q:α×α,cs=f q.1++f q.2/\good q.1/\good q.2:=by
 intro fuel cs x h
 obtain⟨xs,m,rfl,_,hl,hxl,hi⟩:=DataW.trod_array ht h
 rw[hct]at hl
 have c:=hi 0 (by decide)
 have d:=hi 1 (by decide)
 rw[List.getElem?_eq_getElem (by omega)]at c d
 obtain⟨i,j,o⟩:=hp _ _ _ c
 obtain⟨n,e1,s⟩:=hp _ _ _ d
 rw[hc]at j e1
 refine⟨(i,n),?_,o,s⟩
 show _=f i++f n
 rw[<-j,<-e1,Nat.zero_mul,List.drop_zero,Nat.one_mul,List.take_of_length_le (l:=cs.drop k) (by rw[List.length_drop];omega),List.take_append_drop]
theorem Vm [Inhabited α]{P:Program}{f:α->List Value}{good:α->Prop}{t e:TypeId}{k:Nat}(ht:P.underlying t=some (.slice e))(hc:P.cellsOf e=k)(hp:∀fuel cs x,DataW.trod enc P w base spare held fuel e cs=some x->∃q,cs=f q/\good q):
  ∀fuel cs x,DataW.trod enc P w base spare held fuel t cs=some x->∃(A:Option Addr) (n c:Nat) (xs:List α),cs=[.slice A n c]/\Vec w f k A n xs/\∀q∈xs,good q:=by
 intro fuel cs x h
 obtain⟨A,n,c,qs,e,d,i,j,_⟩:=Vl ht hc hp fuel cs x h
 exact⟨A,n,c,qs,e,⟨d,j⟩,fun q hq=>(i q hq).1⟩
structure Ofr where
 fr:Nat
 am:Nat
 ex:Nat
 se:Nat
def agZ:Ofr:=⟨0,0,0,0⟩
def aei (x:Ofr):List Value:=[.int .u8 (x.fr:Int),.int .u16 (x.am:Int),.int .u16 (x.ex:Int),.int .u64 (x.se:Int)]
def acT (x:Ofr):Prop:=x.fr<256/\x.am<65536/\x.ex<65536/\x.se<18446744073709551616
instance : Inhabited Ofr := ⟨agZ⟩
theorem Zu:∀fuel cs x,DataW.trod enc prog w base spare held fuel 162 cs=some x->∃q:Ofr,cs=aei q/\acT q:=by
 intro fuel cs x h
 obtain⟨hl,m,hi⟩:=zH underlying162 h
 rw[show prog.cellsOf 162=4 by kernel_rfl]at hl
 obtain⟨d,k0⟩:=hi 0 _ rfl
 have k0:DataW.trod enc prog w base spare held m 5 ((cs.drop 0).take (prog.cellsOf 5))=some d:=k0
 rw[show prog.cellsOf 5=1 by kernel_rfl]at k0
 obtain⟨f,i,j⟩:=zI underlying5 _ _ _ k0
 obtain⟨k,k1⟩:=hi 1 _ rfl
 have k1:DataW.trod enc prog w base spare held m 27 ((cs.drop 1).take (prog.cellsOf 27))=some k:=k1
 rw[show prog.cellsOf 27=1 by kernel_rfl]at k1
 obtain⟨l,e1,n⟩:=Az underlying27 _ _ _ k1
 obtain⟨o,k2⟩:=hi 2 _ rfl
 have k2:DataW.trod enc prog w base spare held m 27 ((cs.drop 2).take (prog.cellsOf 27))=some o:=k2
 rw[show prog.cellsOf 27=1 by kernel_rfl]at k2
 obtain⟨s,e2,t⟩:=Az underlying27 _ _ _ k2
 obtain⟨u,c⟩:=hi 3 _ rfl
 have c:DataW.trod enc prog w base spare held m 54 ((cs.drop 3).take (prog.cellsOf 54))=some u:=c
 rw[show prog.cellsOf 54=1 by kernel_rfl]at c
 obtain⟨v,e3,y⟩:=KG underlying54 _ _ _ c
 have e:=(aeg cs).trans ((yB cs 0 1).trans (congrArg (List.take 1 (cs.drop 0)++ ·) ((yB cs 1 1).trans (congrArg (List.take 1 (cs.drop 1)++ ·) ((yB cs 2 1).trans (congrArg (List.take 1 (cs.drop 2)++ ·) ((yB cs 3 1).trans (congrArg (List.take 1 (cs.drop 3)++ ·) (aeh hl)))))))))
 simp only[i,e1,e2,e3,List.append_nil]at e
 exact⟨⟨f,l,s,v⟩,by rw[e];rfl,j,n,t,y⟩
def acU (w:World)(p:CW):Prop:=vO p/\∃os:List Ofr,Vec w aei 4 p.oa p.on os/\∀o∈os,acT o
theorem Zv:∀fuel cs x,DataW.trod enc prog w base spare held fuel 29 cs=some x->∃q:CW,cs=vz q/\acU w q:=by
 intro fuel cs x h
 obtain⟨hl,m,hi⟩:=zH underlying29 h
 rw[show prog.cellsOf 29=102 by kernel_rfl]at hl
 obtain⟨s,k0⟩:=hi 0 _ rfl
 have k0:DataW.trod enc prog w base spare held m 24 ((cs.drop 0).take (prog.cellsOf 24))=some s:=k0
 rw[show prog.cellsOf 24=64 by kernel_rfl]at k0
 obtain⟨l,t,n⟩:=(Zt underlying24 (show prog.cellsOf 23=32 by kernel_rfl) (by kernel_rfl) O3) _ _ _ k0
 obtain⟨u,k1⟩:=hi 1 _ rfl
 have k1:DataW.trod enc prog w base spare held m 25 ((cs.drop 64).take (prog.cellsOf 25))=some u:=k1
 rw[show prog.cellsOf 25=1 by kernel_rfl]at k1
 obtain⟨v,e1,y⟩:=KH underlying25 _ _ _ k1
 obtain⟨A,k2⟩:=hi 2 _ rfl
 have k2:DataW.trod enc prog w base spare held m 25 ((cs.drop 65).take (prog.cellsOf 25))=some A:=k2
 rw[show prog.cellsOf 25=1 by kernel_rfl]at k2
 obtain⟨B,e2,C⟩:=KH underlying25 _ _ _ k2
 obtain⟨D,c⟩:=hi 3 _ rfl
 have c:DataW.trod enc prog w base spare held m 5 ((cs.drop 66).take (prog.cellsOf 5))=some D:=c
 rw[show prog.cellsOf 5=1 by kernel_rfl]at c
 obtain⟨F,e3,H⟩:=zI underlying5 _ _ _ c
 obtain⟨I,d⟩:=hi 4 _ rfl
 have d:DataW.trod enc prog w base spare held m 5 ((cs.drop 67).take (prog.cellsOf 5))=some I:=d
 rw[show prog.cellsOf 5=1 by kernel_rfl]at d
 obtain⟨K,e4,L⟩:=zI underlying5 _ _ _ d
 obtain⟨N,i⟩:=hi 5 _ rfl
 have i:DataW.trod enc prog w base spare held m 26 ((cs.drop 68).take (prog.cellsOf 26))=some N:=i
 rw[show prog.cellsOf 26=1 by kernel_rfl]at i
 obtain⟨O,P,Q,R,e5,o⟩:=Vm (f:=aei) underlying26 (show prog.cellsOf 162=4 by kernel_rfl) Zu _ _ _ i
 obtain⟨S,j⟩:=hi 6 _ rfl
 have j:DataW.trod enc prog w base spare held m 27 ((cs.drop 69).take (prog.cellsOf 27))=some S:=j
 rw[show prog.cellsOf 27=1 by kernel_rfl]at j
 obtain⟨U,e6,V⟩:=Az underlying27 _ _ _ j
 obtain⟨X,k⟩:=hi 7 _ rfl
 have k:DataW.trod enc prog w base spare held m 23 ((cs.drop 70).take (prog.cellsOf 23))=some X:=k
 rw[show prog.cellsOf 23=32 by kernel_rfl]at k
 obtain⟨Y,e7,g7⟩:=O3 _ _ _ k
 have e:=(aeg cs).trans ((yB cs 0 64).trans (congrArg (List.take 64 (cs.drop 0)++ ·) ((yB cs 64 1).trans (congrArg (List.take 1 (cs.drop 64)++ ·) ((yB cs 65 1).trans (congrArg (List.take 1 (cs.drop 65)++ ·) ((yB cs 66 1).trans (congrArg (List.take 1 (cs.drop 66)++ ·) ((yB cs 67 1).trans (congrArg (List.take 1 (cs.drop 67)++ ·) ((yB cs 68 1).trans (congrArg (List.take 1 (cs.drop 68)++ ·) ((yB cs 69 1).trans (congrArg (List.take 1 (cs.drop 69)++ ·) ((yB cs 70 32).trans (congrArg (List.take 32 (cs.drop 70)++ ·) (aeh hl)))))))))))))))))
 simp only[t,e1,e2,e3,e4,e5,e6,e7,List.append_nil]at e
 exact⟨⟨l.1,l.2,v,B,F,K,O,P,Q,U,Y⟩,by rw[e];simp[vz],⟨⟨n.1,n.2,y,C,H,L,V⟩,R,o.1,o.2⟩⟩
variable {b0:Nat}{v:Value}{d:DataW H}{ps:List MemPlace}
theorem Vn {r:Reach}(hval:Value.okWide prog w r b0 29 v)(hd:DataW.Trod enc prog w base spare held 29 v d ps):∃q:CW,v= .agg (vz q).toArray/\acU w q:=O0 underlying29 Zv hval hd
instance : Inhabited KD := ⟨SY⟩
theorem Zw:∀fuel cs x,DataW.trod enc prog w base spare held fuel 56 cs=some x->∃q:KD,cs=FH q/\zB q:=by
 intro fuel cs x h
 obtain⟨hl,m,hi⟩:=zH underlying56 h
 rw[show prog.cellsOf 56=4 by kernel_rfl]at hl
 obtain⟨d,k0⟩:=hi 0 _ rfl
 have k0:DataW.trod enc prog w base spare held m 5 ((cs.drop 0).take (prog.cellsOf 5))=some d:=k0
 rw[show prog.cellsOf 5=1 by kernel_rfl]at k0
 obtain⟨f,i,j⟩:=zI underlying5 _ _ _ k0
 obtain⟨k,k1⟩:=hi 1 _ rfl
 have k1:DataW.trod enc prog w base spare held m 5 ((cs.drop 1).take (prog.cellsOf 5))=some k:=k1
 rw[show prog.cellsOf 5=1 by kernel_rfl]at k1
 obtain⟨l,e1,n⟩:=zI underlying5 _ _ _ k1
 obtain⟨o,k2⟩:=hi 2 _ rfl
 have k2:DataW.trod enc prog w base spare held m 27 ((cs.drop 2).take (prog.cellsOf 27))=some o:=k2
 rw[show prog.cellsOf 27=1 by kernel_rfl]at k2
 obtain⟨s,e2,t⟩:=Az underlying27 _ _ _ k2
 obtain⟨u,c⟩:=hi 3 _ rfl
 have c:DataW.trod enc prog w base spare held m 54 ((cs.drop 3).take (prog.cellsOf 54))=some u:=c
 rw[show prog.cellsOf 54=1 by kernel_rfl]at c
 obtain⟨v,e3,y⟩:=KG underlying54 _ _ _ c
 have e:=(aeg cs).trans ((yB cs 0 1).trans (congrArg (List.take 1 (cs.drop 0)++ ·) ((yB cs 1 1).trans (congrArg (List.take 1 (cs.drop 1)++ ·) ((yB cs 2 1).trans (congrArg (List.take 1 (cs.drop 2)++ ·) ((yB cs 3 1).trans (congrArg (List.take 1 (cs.drop 3)++ ·) (aeh hl)))))))))
 simp only[i,e1,e2,e3,List.append_nil]at e
 exact⟨⟨f,l,s,v⟩,by rw[e];rfl,j,n,t,y⟩
theorem QM {r:Reach}(hval:Value.okWide prog w r b0 30 v)(hd:DataW.Trod enc prog w base spare held 30 v d ps):∃A n c,∃xs:List KD,v= .slice A n c/\(Vec w FH 4 A n xs/\∀h∈xs,zB h)/\n<=c/\c<=9223372036854775807:=Zq underlying30 (show prog.cellsOf 56=4 by kernel_rfl) Zw hval hd
end Go.Proofs.YtkpmaajniagncaaGreatDoor
