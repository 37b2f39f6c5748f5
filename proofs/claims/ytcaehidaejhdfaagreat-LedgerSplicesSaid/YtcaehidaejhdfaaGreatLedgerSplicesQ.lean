/- LedgerSplices: for every input the law answers true and leaves its arguments as they were. -/
import Derived.Test.YtcaehidaejhdfaaGreatLedgerSplicesP
import Derived.ProofKit
import Derived.OpenShut
import Derived.ShutString
import Derived.ChangeOld
import Derived.Below
import Derived.Deep.Slices
set_option linter.unusedVariables false
set_option linter.unusedSimpArgs false
namespace Go.Sx
open Go Go.ChangeShapes Go.WideShapes Go.Deep
variable {H:Type}{enc:TypeId×Value->H}{P:Program}{w:World}{base:Nat}{spare:Nat->Bool}{held:Bool}

theorem Dj {α:Type}{k:Nat}{f:α->List Value}:∀(qs:List α),(∀q∈qs,(f q).length=k)->∀(j:Nat) (u:Value),((qs.map f).flatten)[j]? =some u->0<k/\∃q,qs[j/k]? =some q/\(f q)[j%k]? =some u
  |[],_,j,u,h=>by simp at h
  |q::qs,hk,j,u,h=>by
    have hq:=hk q (by simp)
    simp only[List.map_cons,List.flatten_cons]at h
    by_cases hj:j<k
    · rw[List.getElem?_append_left (by omega)]at h
      exact⟨by omega,q,by simp[Nat.div_eq_of_lt hj],by rw[Nat.mod_eq_of_lt hj];exact h⟩
    · rw[List.getElem?_append_right (by omega),hq]at h
      obtain⟨hp,r,b,c⟩:=Dj qs (fun q hq=>hk q (by simp[hq])) (j-k) u h
      have hd:j/k=(j-k)/k+1:=by rw[Nat.div_eq_sub_div hp (by omega)]
      have hm:j%k=(j-k)%k:=Nat.mod_eq_sub_mod (by omega)
      exact⟨hp,r,by rw[hd];simpa using b,by rw[hm];exact c⟩
theorem yo {α:Type}{k:Nat}{f:α->List Value}:∀(qs:List α),(∀q∈qs,(f q).length=k)->((qs.map f).flatten).length=qs.length*k
  |[],_=>by simp
  |q::qs,hk=>by
    have:=yo qs (fun q hq=>hk q (by simp[hq]))
    simp only[List.map_cons,List.flatten_cons,List.length_append,List.length_cons,this,hk q (by simp)]
    rw[Nat.add_mul,Nat.one_mul,Nat.add_comm]

theorem Zu {n:Int}(h:(Lit.int .u8 n).wf=true):Value.int .u8 n=lD (BitVec.ofInt 8 n):=by
  have:=bounds_u8 h
  unfold lD
  rw[BitVec.toNat_ofInt]
  congr 1
  omega
theorem Ur {e:TypeId}(he:P.underlying e=some (.int .u8)):∀fuel cs x,DataW.trod enc P w base spare held fuel e cs=some x->∃q:BitVec 8,cs=[lD q]/\True:=by
  intro fuel cs x h
  obtain⟨n,rfl,_,hw⟩:=DataW.trod_int he h
  exact⟨_,by rw[Zu hw],trivial⟩
theorem Lx {t e:TypeId}{k:Nat}(ht:P.underlying t=some (.array k e))(he:P.underlying e=some (.int .u8))(hc:P.cellsOf e=1)(hct:P.cellsOf t=k):
    ∀fuel cs x,DataW.trod enc P w base spare held fuel t cs=some x->∃q:List (BitVec 8),cs=q.map lD/\q.length=k:=by
  intro fuel cs x h
  obtain⟨xs,m,rfl,_,hl,hxl,hi⟩:=DataW.trod_array ht h
  rw[hct]at hl
  obtain⟨Q,hQ⟩:=choose_lt (α:=BitVec 8) (p:=fun i q=>cs[i]? =some (lD q)) (n:=k) (fun i hi'=>by
    have:=hi i hi'
    rw[List.getElem?_eq_getElem (by omega)]at this
    obtain⟨q,hq,_⟩:=Ur he _ _ _ this
    rw[hc,Nat.mul_one]at hq
    refine⟨q,?_⟩
    have b:((cs.drop i).take 1)[0]? =cs[i]? :=by simp[List.getElem?_drop]
    rw[<-b,hq];rfl)
  refine⟨(List.range k).map Q,?_,by simp⟩
  apply List.ext_getElem?
  intro i
  by_cases hik:i<k
  · rw[hQ i hik];simp[hik]
  · rw[List.getElem?_eq_none (by omega),List.getElem?_eq_none (by simp;omega)]
theorem IA {t e:TypeId}{k:Nat}{r:Reach}{b0:Nat}{v:Value}(ht:P.underlying t=some (.array k e))(h:Value.okWide P w r b0 t v):∃cs:Array Value,v= .agg cs:=by
  simp only[Value.okWide,ht]at h
  obtain⟨cs,b,_⟩:=h
  exact⟨cs,b⟩
end Go.Sx

namespace Go.Sx
open Go Go.ChangeShapes Go.WideShapes Go.Deep
variable {H:Type}{enc:TypeId×Value->H}{P:Program}{w:World}{base:Nat}{spare:Nat->Bool}{held:Bool}
def abA (n:Int):Prop:= -9223372036854775808<=n/\n<=9223372036854775807
theorem rY {α:Type}(cs:List α)(o s:Nat):cs.drop o=(cs.drop o).take s++cs.drop (o+s):=by
  rw[<-List.drop_drop]
  exact(List.take_append_drop s (cs.drop o)).symm
theorem J5 {α:Type}(cs:List α):cs=cs.drop 0:=rfl
theorem J6 {α:Type}{cs:List α}{n:Nat}(h:cs.length=n):cs.drop n=[]:=List.drop_eq_nil_of_le (by omega)
theorem oL {t:TypeId}{fs:Array Field}{fuel:Nat}{cs:List Value}{x:DataW H×List MemPlace}(ht:P.underlying t=some (.struct fs))(h:DataW.trod enc P w base spare held fuel t cs=some x):
    cs.length=P.cellsOf t/\∃m,∀(i:Nat) (f:Field),fs[i]? =some f->∃y,DataW.trod enc P w base spare held m f.type ((cs.drop f.offset).take (P.cellsOf f.type))=some y:=by
  obtain⟨xs,m,_,_,hl,hxl,hi⟩:=DataW.trod_struct ht h
  refine⟨hl,m,fun i f hf=>?_⟩
  have hlt:i<xs.length:=by rw[hxl];exact(Array.getElem?_eq_some_iff.1 hf).1
  exact⟨_,(hi i f hf).trans (List.getElem?_eq_getElem hlt)⟩
theorem wH {e:TypeId}(he:P.underlying e=some (.int .i64)):∀fuel cs x,DataW.trod enc P w base spare held fuel e cs=some x->∃q:Int,cs=[.int .i64 q]/\abA q:=by
  intro fuel cs x h
  obtain⟨n,rfl,_,hw⟩:=DataW.trod_int he h
  exact⟨n,rfl,bounds_i64 hw⟩
theorem Fq {t:TypeId}{fs:Array Field}{r:Reach}{b0:Nat}{v:Value}(ht:P.underlying t=some (.struct fs))(h:Value.okWide P w r b0 t v):∃cs:Array Value,v= .agg cs:=by
  simp only[Value.okWide,ht]at h
  obtain⟨cs,b,_⟩:=h
  exact⟨cs,b⟩
theorem J7 {α:Type}{f:α->List Value}{good:α->Prop}{t:TypeId}{fs:Array Field}{r:Reach}{b0:Nat}{v:Value}{d:DataW H}{ps:List MemPlace}(ht:P.underlying t=some (.struct fs))(hp:∀fuel cs x,DataW.trod enc P w base spare held fuel t cs=some x->∃q,cs=f q/\good q)
    (hval:Value.okWide P w r b0 t v)(hd:DataW.Trod enc P w base spare held t v d ps):∃q:α,v= .agg (f q).toArray/\good q:=by
  obtain⟨cs,rfl⟩:=Fq ht hval
  obtain⟨fuel,h⟩:=hd
  obtain⟨q,e,hg⟩:=hp _ _ _ h
  refine⟨q,?_,hg⟩
  congr 1
  apply Array.ext'
  exact e
end Go.Sx

namespace Go.Proofs.YtcaehidaejhdfaaGreat
open Go Go.Sx Go.ChangeShapes Go.WideShapes Go.Deep
variable {H:Type}{enc:TypeId×Value->H}{w:World}{base:Nat}{spare:Nat->Bool}{held:Bool}{P:Program}
theorem GM {α:Type}[Inhabited α]{f:α->List Value}{good:α->Prop}{t e:TypeId}{k:Nat}
    (ht:P.underlying t=some (.slice e))(hc:P.cellsOf e=k)(hp:∀fuel cs x,DataW.trod enc P w base spare held fuel e cs=some x->∃q,cs=f q/\good q):
    ∀fuel cs x,DataW.trod enc P w base spare held fuel t cs=some x->∃(A:Option Addr) (n c:Nat) (qs:List α),cs=[.slice A n c]/\qs.length=n/\(∀q∈qs,good q/\(f q).length=k)/\Sl w k A n (qs.map f).flatten/\n<=c/\c<=maxLen:=by
  intro fuel cs x hf
  obtain⟨d,ps⟩:=x
  rcases open_slice ht hf with⟨hcs,_⟩|⟨a,len,cap,m,n',D,Pl,hcs,hb,hl,hm,hmm,hx,hi⟩
  · exact⟨none,0,0,[],hcs,rfl,fun q hq=>by simp at hq,⟨by simp,fun j u h=>by simp at h⟩,Nat.le_refl _,Nat.zero_le _⟩
  · have hlm:len<=m:=by rw[hmm];split<;>omega
    obtain⟨Q,hQ⟩:=choose_lt (α:=α) (p:=fun i q=>w.cells? base (a.add (i*k)) k=some (f q)/\good q) (n:=m) (fun i hi'=>by
      obtain⟨cs',b,l⟩:=hi i hi'
      obtain⟨q,rfl,hg⟩:=hp _ _ _ l
      rw[hc]at b
      exact⟨q,b,hg⟩)
    have hall:∀q∈(List.range len).map Q,good q/\(f q).length=k:=by
      intro q hq
      obtain⟨i,hi',rfl⟩:=List.mem_map.1 hq
      have hin:i<len:=List.mem_range.1 hi'
      obtain⟨b,l⟩:=hQ i (by omega)
      exact⟨l,(World.cells?_some b).2.1⟩
    refine⟨some a,len,cap,(List.range len).map Q,hcs,by simp,hall,⟨?_,?_⟩,hl,hm⟩
    · rw[yo _ (fun q hq=>(hall q hq).2)];simp
    · intro j u hu
      obtain⟨o,q,b,l⟩:=Dj (k:=k) _ (fun q hq=>(hall q hq).2) j u hu
      have hjn:j/k<len:=by
        have:=(List.getElem?_eq_some_iff.1 b).1
        simpa using this
      rw[List.getElem?_map,List.getElem?_range hjn]at b
      simp at b
      subst b
      obtain⟨s,_⟩:=hQ (j/k) (by omega)
      obtain⟨_,hlen,hcell⟩:=World.cells?_some s
      refine⟨a,rfl,?_⟩
      have:=hcell (j%k) (Nat.mod_lt _ o)
      rw[l,Sx.add_add,show j/k*k+j%k=j by rw[Nat.mul_comm];exact Nat.div_add_mod j k]at this
      exact this
end Go.Proofs.YtcaehidaejhdfaaGreat

namespace Go.Proofs.YtcaehidaejhdfaaGreat
open Tryz
open Go Go.Sx Go.rZ Go.Lsp Go.Fv Go.wI Go.Num Go.Ac Go.ChangeShapes Go.WideShapes Go.Deep
set_option maxRecDepth 20000
variable {H:Type}{enc:TypeId×Value->H}{w:World}{base:Nat}{spare:Nat->Bool}{held:Bool}
structure WS where
  fr:Nat
  am:Nat
  ex:Nat
  se:Nat
def Zv:WS:=⟨0,0,0,0⟩
def Wv (x:WS):List Value:=[.int .u8 ((x.fr:Nat):Int),.int .u16 ((x.am:Nat):Int),.int .u16 ((x.ex:Nat):Int),.int .u64 ((x.se:Nat):Int)]
def Va (x:WS):Prop:=x.fr<256/\x.am<65536/\x.ex<65536/\x.se<18446744073709551616
theorem Fs {P:Program}{e:TypeId}(he:P.underlying e=some (.int .u8)):∀fuel cs x,DataW.trod enc P w base spare held fuel e cs=some x->∃q:Nat,cs=[.int .u8 ((q:Nat):Int)]/\q<256:=by
  intro fuel cs x h
  obtain⟨n,rfl,_,hw⟩:=DataW.trod_int he h
  have:=bounds_u8 hw
  exact⟨n.toNat,by rw[show((n.toNat:Nat):Int)=n by omega],by omega⟩
theorem CJ {P:Program}{e:TypeId}(he:P.underlying e=some (.int .u16)):∀fuel cs x,DataW.trod enc P w base spare held fuel e cs=some x->∃q:Nat,cs=[.int .u16 ((q:Nat):Int)]/\q<65536:=by
  intro fuel cs x h
  obtain⟨n,rfl,_,hw⟩:=DataW.trod_int he h
  have:=bounds_u16 hw
  exact⟨n.toNat,by rw[show((n.toNat:Nat):Int)=n by omega],by omega⟩
theorem CK {P:Program}{e:TypeId}(he:P.underlying e=some (.int .u64)):∀fuel cs x,DataW.trod enc P w base spare held fuel e cs=some x->∃q:Nat,cs=[.int .u64 ((q:Nat):Int)]/\q<18446744073709551616:=by
  intro fuel cs x h
  obtain⟨n,rfl,_,hw⟩:=DataW.trod_int he h
  have:=bounds_u64 hw
  exact⟨n.toNat,by rw[show((n.toNat:Nat):Int)=n by omega],by omega⟩
theorem J8 {n:Int}(h:(Lit.int .u32 n).wf=true):0<=n/\n<=4294967295:=by
  simpa[Lit.wf,IntKind.min,IntKind.max,IntKind.signed,IntKind.bits]using h
theorem GN {P:Program}{e:TypeId}(he:P.underlying e=some (.int .u32)):∀fuel cs x,DataW.trod enc P w base spare held fuel e cs=some x->∃q:Nat,cs=[.int .u32 ((q:Nat):Int)]/\q<4294967296:=by
  intro fuel cs x h
  obtain⟨n,rfl,_,hw⟩:=DataW.trod_int he h
  have:=J8 hw
  exact⟨n.toNat,by rw[show((n.toNat:Nat):Int)=n by omega],by omega⟩
theorem Fu:∀fuel cs x,DataW.trod enc prog w base spare held fuel 23 cs=some x->∃q:List Byte,cs=qX q/\q.length=32:=by
  intro fuel cs x h
  obtain⟨q,e,hl⟩:=Lx (P:=prog) underlying23 underlying5 (by kernel_rfl) (by kernel_rfl) _ _ _ h
  exact⟨q,by rw[e,sD hl],hl⟩
theorem J9 {α:Type}{P:Program}{f:α->List Value}{good:α->Prop}{t e:TypeId}{k:Nat}(ht:P.underlying t=some (.array 2 e))(hc:P.cellsOf e=k)(hct:P.cellsOf t=2*k)(hp:∀fuel cs x,DataW.trod enc P w base spare held fuel e cs=some x->∃q:α,cs=f q/\good q):
    ∀fuel cs x,DataW.trod enc P w base spare held fuel t cs=some x->∃q:α×α,cs=f q.1++f q.2/\good q.1/\good q.2:=by
  intro fuel cs x h
  obtain⟨xs,m,rfl,_,hl,hxl,hi⟩:=DataW.trod_array ht h
  rw[hct]at hl
  have b:=hi 0 (by decide)
  have c:=hi 1 (by decide)
  rw[List.getElem?_eq_getElem (by omega)]at b c
  obtain⟨d,i,n⟩:=hp _ _ _ b
  obtain⟨j,e1,o⟩:=hp _ _ _ c
  rw[hc]at i e1
  refine⟨(d,j),?_,n,o⟩
  show _=f d++f j
  rw[<-i,<-e1,Nat.zero_mul,List.drop_zero,Nat.one_mul,List.take_of_length_le (l:=cs.drop k) (by rw[List.length_drop];omega),List.take_append_drop]
theorem OL {α:Type}[Inhabited α]{P:Program}{f:α->List Value}{good:α->Prop}{t e:TypeId}{k:Nat}(ht:P.underlying t=some (.slice e))(hc:P.cellsOf e=k)(hp:∀fuel cs x,DataW.trod enc P w base spare held fuel e cs=some x->∃q,cs=f q/\good q):
    ∀fuel cs x,DataW.trod enc P w base spare held fuel t cs=some x->∃(A:Option Addr) (n c:Nat) (xs:List α),cs=[.slice A n c]/\Vec w f k A n xs/\∀q∈xs,good q:=by
  intro fuel cs x h
  obtain⟨A,n,c,qs,e,b,d,i,_⟩:=GM ht hc hp fuel cs x h
  exact⟨A,n,c,qs,e,⟨b,i⟩,fun q hq=>(d q hq).1⟩
instance : Inhabited WS := ⟨Zv⟩

theorem RF:∀fuel cs x,DataW.trod enc prog w base spare held fuel 100 cs=some x->∃q:WS,cs=Wv q/\Va q:=by
  intro fuel cs x h
  obtain⟨hl,m,hi⟩:=oL underlying100 h
  rw[show prog.cellsOf 100=4 by kernel_rfl]at hl
  obtain⟨d,b⟩:=hi 0 _ rfl
  have b:DataW.trod enc prog w base spare held m 5 ((cs.drop 0).take (prog.cellsOf 5))=some d:=b
  rw[show prog.cellsOf 5=1 by kernel_rfl]at b
  obtain⟨f,i,j⟩:=Fs underlying5 _ _ _ b
  obtain⟨k,k1⟩:=hi 1 _ rfl
  have k1:DataW.trod enc prog w base spare held m 27 ((cs.drop 1).take (prog.cellsOf 27))=some k:=k1
  rw[show prog.cellsOf 27=1 by kernel_rfl]at k1
  obtain⟨l,e1,n⟩:=CJ underlying27 _ _ _ k1
  obtain⟨o,k2⟩:=hi 2 _ rfl
  have k2:DataW.trod enc prog w base spare held m 27 ((cs.drop 2).take (prog.cellsOf 27))=some o:=k2
  rw[show prog.cellsOf 27=1 by kernel_rfl]at k2
  obtain⟨s,e2,t⟩:=CJ underlying27 _ _ _ k2
  obtain⟨u,c⟩:=hi 3 _ rfl
  have c:DataW.trod enc prog w base spare held m 48 ((cs.drop 3).take (prog.cellsOf 48))=some u:=c
  rw[show prog.cellsOf 48=1 by kernel_rfl]at c
  obtain⟨v,e3,y⟩:=CK underlying48 _ _ _ c
  have e:=(J5 cs).trans ((rY cs 0 1).trans (congrArg (List.take 1 (cs.drop 0)++ ·) ((rY cs 1 1).trans (congrArg (List.take 1 (cs.drop 1)++ ·) ((rY cs 2 1).trans (congrArg (List.take 1 (cs.drop 2)++ ·) ((rY cs 3 1).trans (congrArg (List.take 1 (cs.drop 3)++ ·) (J6 hl)))))))))
  simp only[i,e1,e2,e3,List.append_nil]at e
  exact⟨⟨f,l,s,v⟩,by rw[e];rfl,j,n,t,y⟩
def RG (w:World)(p:GD):Prop:=Dh p/\∃os:List WS,Vec w Wv 4 p.oa p.on os/\∀o∈os,Va o
theorem RH:∀fuel cs x,DataW.trod enc prog w base spare held fuel 29 cs=some x->∃q:GD,cs=Dn q/\RG w q:=by
  intro fuel cs x h
  obtain⟨hl,m,hi⟩:=oL underlying29 h
  rw[show prog.cellsOf 29=102 by kernel_rfl]at hl
  obtain⟨s,b⟩:=hi 0 _ rfl
  have b:DataW.trod enc prog w base spare held m 24 ((cs.drop 0).take (prog.cellsOf 24))=some s:=b
  rw[show prog.cellsOf 24=64 by kernel_rfl]at b
  obtain⟨l,t,n⟩:=(J9 underlying24 (show prog.cellsOf 23=32 by kernel_rfl) (by kernel_rfl) Fu) _ _ _ b
  obtain⟨u,k1⟩:=hi 1 _ rfl
  have k1:DataW.trod enc prog w base spare held m 25 ((cs.drop 64).take (prog.cellsOf 25))=some u:=k1
  rw[show prog.cellsOf 25=1 by kernel_rfl]at k1
  obtain⟨v,e1,y⟩:=GN underlying25 _ _ _ k1
  obtain⟨z,k2⟩:=hi 2 _ rfl
  have k2:DataW.trod enc prog w base spare held m 25 ((cs.drop 65).take (prog.cellsOf 25))=some z:=k2
  rw[show prog.cellsOf 25=1 by kernel_rfl]at k2
  obtain⟨A,e2,B⟩:=GN underlying25 _ _ _ k2
  obtain⟨C,c⟩:=hi 3 _ rfl
  have c:DataW.trod enc prog w base spare held m 5 ((cs.drop 66).take (prog.cellsOf 5))=some C:=c
  rw[show prog.cellsOf 5=1 by kernel_rfl]at c
  obtain⟨D,e3,F⟩:=Fs underlying5 _ _ _ c
  obtain⟨H,d⟩:=hi 4 _ rfl
  have d:DataW.trod enc prog w base spare held m 5 ((cs.drop 67).take (prog.cellsOf 5))=some H:=d
  rw[show prog.cellsOf 5=1 by kernel_rfl]at d
  obtain⟨I,e4,J⟩:=Fs underlying5 _ _ _ d
  obtain⟨K,i⟩:=hi 5 _ rfl
  have i:DataW.trod enc prog w base spare held m 26 ((cs.drop 68).take (prog.cellsOf 26))=some K:=i
  rw[show prog.cellsOf 26=1 by kernel_rfl]at i
  obtain⟨L,N,O,P,e5,o⟩:=OL (f:=Wv) underlying26 (show prog.cellsOf 100=4 by kernel_rfl) RF _ _ _ i
  obtain⟨Q,j⟩:=hi 6 _ rfl
  have j:DataW.trod enc prog w base spare held m 27 ((cs.drop 69).take (prog.cellsOf 27))=some Q:=j
  rw[show prog.cellsOf 27=1 by kernel_rfl]at j
  obtain⟨R,e6,S⟩:=CJ underlying27 _ _ _ j
  obtain⟨T,k⟩:=hi 7 _ rfl
  have k:DataW.trod enc prog w base spare held m 23 ((cs.drop 70).take (prog.cellsOf 23))=some T:=k
  rw[show prog.cellsOf 23=32 by kernel_rfl]at k
  obtain⟨U,e7,V⟩:=Fu _ _ _ k
  have e:=(J5 cs).trans ((rY cs 0 64).trans (congrArg (List.take 64 (cs.drop 0)++ ·) ((rY cs 64 1).trans (congrArg (List.take 1 (cs.drop 64)++ ·) ((rY cs 65 1).trans (congrArg (List.take 1 (cs.drop 65)++ ·) ((rY cs 66 1).trans (congrArg (List.take 1 (cs.drop 66)++ ·) ((rY cs 67 1).trans (congrArg (List.take 1 (cs.drop 67)++ ·) ((rY cs 68 1).trans (congrArg (List.take 1 (cs.drop 68)++ ·) ((rY cs 69 1).trans (congrArg (List.take 1 (cs.drop 69)++ ·) ((rY cs 70 32).trans (congrArg (List.take 32 (cs.drop 70)++ ·) (J6 hl)))))))))))))))))
  simp only[t,e1,e2,e3,e4,e5,e6,e7,List.append_nil]at e
  exact⟨⟨l.1,l.2,v,A,D,I,L,N,O,R,U⟩,by rw[e];simp[Dn],⟨⟨n.1,n.2,y,B,F,J,S⟩,P,o.1,o.2⟩⟩
theorem OM {r:Reach}{b0:Nat}{v:Value}{d:DataW H}{ps:List MemPlace}(hval:Value.okWide prog w r b0 29 v)(hd:DataW.Trod enc prog w base spare held 29 v d ps):∃q:GD,v= .agg (Dn q).toArray/\RG w q:=J7 underlying29 RH hval hd
instance : Inhabited yH := ⟨kT⟩
instance : Inhabited uO := ⟨kQ⟩
instance : Inhabited Ke := ⟨lH⟩
structure ZJ where
  A:Option Addr
  n:Nat
  c:Nat
def lkV (r:ZJ):List Value:=[.slice r.A r.n r.c]
structure Ww where
  iA:Option Addr
  iN:Nat
  iC:Nat
  oA:Option Addr
  oN:Nat
  oC:Nat
  fe:Int
def Zw (r:Ww):List Value:=[.slice r.iA r.iN r.iC,.slice r.oA r.oN r.oC,.int .i64 r.fe]
theorem LA {α β:Type}{R:α->β->Prop}(z:α)(y:β):∀{xs:List α},(∀q∈xs,∃b,R q b)->∃bs:List β,xs.length=bs.length/\∀i,i<bs.length->R (xs.getD i z) (bs.getD i y)
  |[],_=>⟨[],rfl,fun i hi=>absurd hi (Nat.not_lt_zero i)⟩
  |x::xs,h=>by
    obtain⟨b,hb⟩:=h x (by simp)
    obtain⟨bs,c,d⟩:=LA z y (xs:=xs) (fun q hq=>h q (by simp[hq]))
    refine⟨b::bs,by simp[c],fun i hi=>?_⟩
    cases i with
    |zero=>simpa using hb
    |succ i=>simpa using d i (by simpa using hi)
theorem yN {α:Type}[Inhabited α]{P:Program}{f:α->List Value}{good:α->Prop}{t e:TypeId}{k:Nat}(ht:P.underlying t=some (.slice e))(hc:P.cellsOf e=k)(hp:∀fuel cs x,DataW.trod enc P w base spare held fuel e cs=some x->∃q,cs=f q/\good q):
    ∀fuel cs x,DataW.trod enc P w base spare held fuel t cs=some x->∃q:ZJ,cs=lkV q/\∃xs:List α,Vec w f k q.A q.n xs/\(∀q∈xs,good q)/\q.n<=9223372036854775807:=by
  intro fuel cs x h
  obtain⟨A,n,c,qs,e,b,d,i,j,l⟩:=GM ht hc hp fuel cs x h
  exact⟨⟨A,n,c⟩,e,qs,⟨b,i⟩,fun q hq=>(d q hq).1,Nat.le_trans j (Nat.le_trans l (by decide))⟩
def Zx (w:World)(q:yH):Prop:=∃b:Fx,Lb w q b
def abB (w:World)(q:ZJ):Prop:=∃xs:List yH,Vec w yI 4 q.A q.n xs/\(∀q∈xs,Zx w q)/\q.n<=9223372036854775807
def abC (w:World)(q:uO):Prop:=∃o:nC,Oq w q o
def Zy {α:Type}(_:α):Prop:=True
def RI (w:World)(q:Ww):Prop:=∃(cs:List Ke) (ro:List uO) (os:List nC),Vec w JQ 34 q.iA q.iN cs/\Vec w xC 2 q.oA q.oN ro/\oF w 0 ro os
theorem RJ:∀fuel cs x,DataW.trod enc prog w base spare held fuel 114 cs=some x->∃q:yH,cs=yI q/\Zx w q:=by
  intro fuel cs x h
  obtain⟨hl,m,hi⟩:=oL underlying114 h
  rw[show prog.cellsOf 114=4 by kernel_rfl]at hl
  obtain⟨s,b⟩:=hi 0 _ rfl
  have b:DataW.trod enc prog w base spare held m 112 ((cs.drop 0).take (prog.cellsOf 112))=some s:=b
  rw[show prog.cellsOf 112=1 by kernel_rfl]at b
  obtain⟨i,t,u⟩:=(yN (f:=uN) (good:=fun k=>k<18446744073709551616) underlying112 (show prog.cellsOf 39=1 by kernel_rfl) (CK underlying39)) _ _ _ b
  obtain⟨v,k1⟩:=hi 1 _ rfl
  have k1:DataW.trod enc prog w base spare held m 3 ((cs.drop 1).take (prog.cellsOf 3))=some v:=k1
  rw[show prog.cellsOf 3=1 by kernel_rfl]at k1
  obtain⟨j,e1,C⟩:=wH underlying3 _ _ _ k1
  obtain⟨y,k2⟩:=hi 2 _ rfl
  have k2:DataW.trod enc prog w base spare held m 3 ((cs.drop 2).take (prog.cellsOf 3))=some y:=k2
  rw[show prog.cellsOf 3=1 by kernel_rfl]at k2
  obtain⟨l,e2,D⟩:=wH underlying3 _ _ _ k2
  obtain⟨z,d⟩:=hi 3 _ rfl
  have d:DataW.trod enc prog w base spare held m 39 ((cs.drop 3).take (prog.cellsOf 39))=some z:=d
  rw[show prog.cellsOf 39=1 by kernel_rfl]at d
  obtain⟨o,e3,B⟩:=CK underlying39 _ _ _ d
  have e:=(J5 cs).trans ((rY cs 0 1).trans (congrArg (List.take 1 (cs.drop 0)++ ·) ((rY cs 1 1).trans (congrArg (List.take 1 (cs.drop 1)++ ·) ((rY cs 2 1).trans (congrArg (List.take 1 (cs.drop 2)++ ·) ((rY cs 3 1).trans (congrArg (List.take 1 (cs.drop 3)++ ·) (J6 hl)))))))))
  simp only[t,e1,e2,e3,List.append_nil]at e
  exact⟨⟨i.A,i.n,i.c,j,l,o⟩,by rw[e]<;>rfl,u.elim fun xs hx=>⟨⟨xs,j,l,o⟩,rfl,rfl,rfl,B,hx.1,hx.2.1⟩⟩
theorem RL:∀fuel cs x,DataW.trod enc prog w base spare held fuel 75 cs=some x->∃q:ZJ,cs=lkV q/\abB w q:=by
  intro fuel cs x h
  obtain⟨hl,m,hi⟩:=oL underlying75 h
  rw[show prog.cellsOf 75=1 by kernel_rfl]at hl
  obtain⟨c,b⟩:=hi 0 _ rfl
  have b:DataW.trod enc prog w base spare held m 73 ((cs.drop 0).take (prog.cellsOf 73))=some c:=b
  rw[show prog.cellsOf 73=1 by kernel_rfl]at b
  obtain⟨d,f,i⟩:=(yN underlying73 (show prog.cellsOf 114=4 by kernel_rfl) RJ) _ _ _ b
  have e:=(J5 cs).trans ((rY cs 0 1).trans (congrArg (List.take 1 (cs.drop 0)++ ·) (J6 hl)))
  simp only[f,List.append_nil]at e
  exact⟨d,by rw[e]<;>rfl,i⟩
theorem RN:∀fuel cs x,DataW.trod enc prog w base spare held fuel 77 cs=some x->∃q:uO,cs=xC q/\abC w q:=by
  intro fuel cs x h
  obtain⟨hl,m,hi⟩:=oL underlying77 h
  rw[show prog.cellsOf 77=2 by kernel_rfl]at hl
  obtain⟨i,b⟩:=hi 0 _ rfl
  have b:DataW.trod enc prog w base spare held m 3 ((cs.drop 0).take (prog.cellsOf 3))=some i:=b
  rw[show prog.cellsOf 3=1 by kernel_rfl]at b
  obtain⟨f,j,o⟩:=wH underlying3 _ _ _ b
  obtain⟨k,k1⟩:=hi 1 _ rfl
  have k1:DataW.trod enc prog w base spare held m 75 ((cs.drop 1).take (prog.cellsOf 75))=some k:=k1
  rw[show prog.cellsOf 75=1 by kernel_rfl]at k1
  obtain⟨d,e1,l⟩:=RL _ _ _ k1
  have e:=(J5 cs).trans ((rY cs 0 1).trans (congrArg (List.take 1 (cs.drop 0)++ ·) ((rY cs 1 1).trans (congrArg (List.take 1 (cs.drop 1)++ ·) (J6 hl)))))
  simp only[j,e1,List.append_nil]at e
  exact⟨⟨f,d.A,d.n,d.c⟩,by rw[e]<;>rfl,l.elim fun xs hx=>(LA kT wF hx.2.1).elim fun bs hb=>⟨⟨f,bs⟩,rfl,hb.1▸hx.1.1.symm▸hx.2.2,xs,hx.1,hb⟩⟩
theorem RO:∀fuel cs x,DataW.trod enc prog w base spare held fuel 37 cs=some x->∃q:Cw,cs=BX q/\Zy q:=by
  intro fuel cs x h
  obtain⟨hl,m,hi⟩:=oL underlying37 h
  rw[show prog.cellsOf 37=33 by kernel_rfl]at hl
  obtain⟨c,b⟩:=hi 0 _ rfl
  have b:DataW.trod enc prog w base spare held m 23 ((cs.drop 0).take (prog.cellsOf 23))=some c:=b
  rw[show prog.cellsOf 23=32 by kernel_rfl]at b
  obtain⟨d,f,i⟩:=Fu _ _ _ b
  obtain⟨j,k1⟩:=hi 1 _ rfl
  have k1:DataW.trod enc prog w base spare held m 3 ((cs.drop 32).take (prog.cellsOf 3))=some j:=k1
  rw[show prog.cellsOf 3=1 by kernel_rfl]at k1
  obtain⟨k,e1,l⟩:=wH underlying3 _ _ _ k1
  have e:=(J5 cs).trans ((rY cs 0 32).trans (congrArg (List.take 32 (cs.drop 0)++ ·) ((rY cs 32 1).trans (congrArg (List.take 1 (cs.drop 32)++ ·) (J6 hl)))))
  simp only[f,e1,List.append_nil]at e
  exact⟨⟨⟨d,i⟩,k⟩,by rw[e]<;>rfl,trivial⟩
theorem RP:∀fuel cs x,DataW.trod enc prog w base spare held fuel 72 cs=some x->∃q:Ke,cs=JQ q/\Zy q:=by
  intro fuel cs x h
  obtain⟨hl,m,hi⟩:=oL underlying72 h
  rw[show prog.cellsOf 72=34 by kernel_rfl]at hl
  obtain⟨c,b⟩:=hi 0 _ rfl
  have b:DataW.trod enc prog w base spare held m 37 ((cs.drop 0).take (prog.cellsOf 37))=some c:=b
  rw[show prog.cellsOf 37=33 by kernel_rfl]at b
  obtain⟨d,f,k⟩:=RO _ _ _ b
  obtain⟨i,k1⟩:=hi 1 _ rfl
  have k1:DataW.trod enc prog w base spare held m 3 ((cs.drop 33).take (prog.cellsOf 3))=some i:=k1
  rw[show prog.cellsOf 3=1 by kernel_rfl]at k1
  obtain⟨j,e1,l⟩:=wH underlying3 _ _ _ k1
  have e:=(J5 cs).trans ((rY cs 0 33).trans (congrArg (List.take 33 (cs.drop 0)++ ·) ((rY cs 33 1).trans (congrArg (List.take 1 (cs.drop 33)++ ·) (J6 hl)))))
  simp only[f,e1,List.append_nil]at e
  exact⟨⟨d,j⟩,by rw[e]<;>rfl,trivial⟩
theorem RQ:∀fuel cs x,DataW.trod enc prog w base spare held fuel 33 cs=some x->∃q:Ww,cs=Zw q/\RI w q:=by
  intro fuel cs x h
  obtain⟨hl,m,hi⟩:=oL underlying33 h
  rw[show prog.cellsOf 33=3 by kernel_rfl]at hl
  obtain⟨i,b⟩:=hi 0 _ rfl
  have b:DataW.trod enc prog w base spare held m 30 ((cs.drop 0).take (prog.cellsOf 30))=some i:=b
  rw[show prog.cellsOf 30=1 by kernel_rfl]at b
  obtain⟨d,j,k⟩:=(yN underlying30 (show prog.cellsOf 72=34 by kernel_rfl) RP) _ _ _ b
  obtain⟨l,k1⟩:=hi 1 _ rfl
  have k1:DataW.trod enc prog w base spare held m 31 ((cs.drop 1).take (prog.cellsOf 31))=some l:=k1
  rw[show prog.cellsOf 31=1 by kernel_rfl]at k1
  obtain⟨f,e1,o⟩:=(yN underlying31 (show prog.cellsOf 77=2 by kernel_rfl) RN) _ _ _ k1
  obtain⟨s,k2⟩:=hi 2 _ rfl
  have k2:DataW.trod enc prog w base spare held m 3 ((cs.drop 2).take (prog.cellsOf 3))=some s:=k2
  rw[show prog.cellsOf 3=1 by kernel_rfl]at k2
  obtain⟨t,e2,u⟩:=wH underlying3 _ _ _ k2
  have e:=(J5 cs).trans ((rY cs 0 1).trans (congrArg (List.take 1 (cs.drop 0)++ ·) ((rY cs 1 1).trans (congrArg (List.take 1 (cs.drop 1)++ ·) ((rY cs 2 1).trans (congrArg (List.take 1 (cs.drop 2)++ ·) (J6 hl)))))))
  simp only[j,e1,e2,List.append_nil]at e
  exact⟨⟨d.A,d.n,d.c,f.A,f.n,f.c,t⟩,by rw[e]<;>rfl,k.elim fun cs hc=>o.elim fun ro ho=>(LA kQ oO ho.2.1).elim fun os hs=>⟨cs,ro,os,hc.1,ho.1,hs⟩⟩
theorem Ka {r:Reach}{b0:Nat}{v:Value}{d:DataW H}{ps:List MemPlace}(hval:Value.okWide prog w r b0 34 v)(hd:DataW.Trod enc prog w base spare held 34 v d ps):∃x:Ww×Ww,v= .agg (Zw x.1++Zw x.2).toArray/\RI w x.1/\RI w x.2:=by
  obtain⟨cs,rfl⟩:=IA underlying34 hval
  obtain⟨fuel,h⟩:=hd
  obtain⟨q,e,hg⟩:=J9 (P:=prog) underlying34 (show prog.cellsOf 33=3 by kernel_rfl) (by kernel_rfl) RQ _ _ _ h
  refine⟨q,?_,hg⟩
  congr 1
  apply Array.ext'
  exact e
theorem CL (x:GD)(g:RG w x)(y:Ww×Ww)(h:RI w y.1/\RI w y.2):Calls prog 3 #[.agg (Dn x).toArray,.agg (Zw y.1++Zw y.2).toArray] w fun r w'=>r= .returned (.bool true)/\Le w w':=by
  obtain⟨j,k,l,b,c,d⟩:=h.1
  obtain⟨m,n,o,e,f,i⟩:=h.2
  exact CG x g.1 y.1.fe y.2.fe (iC0:=y.1.iC) (oC0:=y.1.oC) (iC1:=y.2.iC) (oC1:=y.2.oC) w b c d e f i
end Go.Proofs.YtcaehidaejhdfaaGreat

