import Derived.Test.YtpefcgiiigdcdaaGreatTI
namespace Go.Ab.M
open Go.Proofs
set_option linter.unusedVariables false
set_option maxRecDepth 100000
structure aI where
 Op:Int
 A_:Int
 B_:Int
 N:Int
 deriving DecidableEq,Inhabited
abbrev aI.D (x:aI):List D:=[.v (.int .u8 x.Op),.v (.int .u8 x.A_),.v (.int .u8 x.B_),.v (.int .u8 x.N)]
structure lT where
 N:Int
 D_:Int
 deriving DecidableEq,Inhabited
abbrev lT.D (x:lT):List D:=[.v (.int .i8 x.N),.v (.int .u8 x.D_)]
def uf (tA:TOp):Option Bool:=
 (zi tA.Num (Rat.mk false [] [])).bind fun x0=>
 bif tA.Code==1 then
 bif tA.A_==0 then
 bif tA.B_==0 then
 some (tA.Exp==0)
 else
 some false
 else
 some false
 else
 bif decide (tA.Code≥2) then
 bif decide (tA.Code≤5) then
 bif x0 then
 some (tA.Exp==0)
 else
 some false
 else
 bif tA.Code==6 then
 bif x0 then
 bif tA.B_==0 then
 some (tA.Exp==0)
 else
 some false
 else
 some false
 else
 bif tA.Code==7 then
 bif x0 then
 some (tA.B_==0)
 else
 some false
 else
 some false
 else
 bif tA.Code==6 then
 bif x0 then
 bif tA.B_==0 then
 some (tA.Exp==0)
 else
 some false
 else
 some false
 else
 bif tA.Code==7 then
 bif x0 then
 some (tA.B_==0)
 else
 some false
 else
 some false
theorem Xb (tA:TOp):∀r,uf tA=some r→aj Tryz.prog 126 0 [AG TOp.D tA] [] (B r) []:=
 ak (enc:=fun r=>B r) (aP:=fun r=>[]) 10 (.call [] [] (JI tA.Num (Rat.mk false [] [])) .no fun x0=>.br 100000008 (.br 30008 (.br 30018 (.ret (tA.Exp==0)) (.ret false)) (.ret false)) (.br 40008 (.br 100000025 (.br 50004 (.ret (tA.Exp==0)) (.ret false)) (.br 100000040 (.br 70004 (.br 70014 (.ret (tA.Exp==0)) (.ret false)) (.ret false)) (.br 100000055 (.br 90004 (.ret (tA.B_==0)) (.ret false)) (.ret false)))) (.br 100000040 (.br 70004 (.br 70014 (.ret (tA.Exp==0)) (.ret false)) (.ret false)) (.br 100000055 (.br 90004 (.ret (tA.B_==0)) (.ret false)) (.ret false))))) Tryz.func126 (by kernel_rfl) (by kernel_rfl) (by kernel_rfl)
def adD:ByteArray:=⟨#[48]⟩
def xC (x:List Int) (out:ByteArray):St:=⟨31,0,[(3,SL (cI .u32) x),(4,SX out)],[]⟩
def wR (out:ByteArray):St:=⟨31,0,[(4,SX out)],[]⟩
def fP (x:List Int) (out:ByteArray):Option ((List Int×ByteArray)⊕ByteArray):=
 bif decide (((x.length:Nat):Int)>0) then
 (ny x 10).bind fun x1=>
 bif decide ((((strOfNums [IntKind.wrap .u8 (IntKind.wrap .u32 (48+x1.2.1))]).size+out.size:Nat):Int)≤9223372036854775807) then
 some (.inl (x1.1,(strOfNums [IntKind.wrap .u8 (IntKind.wrap .u32 (48+x1.2.1))])++out))
 else none
 else
 some (.inr out)
theorem QW:∀σ:List Int×ByteArray,aJ Tryz.prog (nav [1,1,1,1,0,0,0] (ah Tryz.f128)) (fun (σ:List Int×ByteArray)=>xC σ.1 σ.2) (fun (_:ByteArray)=>(.exit 0)) (fun (y:ByteArray)=>wR y) σ (fP σ.1 σ.2)
 | (x,out)=>aB 1010 (.op 50002 (.ln (cI .u32) x) (.br 100000015 (.call [] [] (J4 x 10) .no fun x1=>.op 70004 .wr (.op 70008 (.bs [IntKind.wrap .u8 (IntKind.wrap .u32 (48+x1.2.1))]) (.ps 1000003 [.k [3,4] []] (.ret (.inl (x1.1,(strOfNums [IntKind.wrap .u8 (IntKind.wrap .u32 (48+x1.2.1))])++out)))))) (.ps 1000003 [.k [4] []] (.ret (.inr out))))) (by kernel_rfl)
def FD (x:List Int) (out:ByteArray):Option ByteArray:=aK (fun (σ:List Int×ByteArray)=>fP σ.1 σ.2) FU (x,out)
theorem QL (x:List Int) (out:ByteArray):∀y:ByteArray,FD x out=some y→Runs Tryz.prog (.loop (nav [1,1,1,1,0,0,0] (ah Tryz.f128))) (xC x out) ((.exit 0)) ((fun (y:ByteArray)=>wR y) y):=
 aU (head:=fun (σ:List Int×ByteArray)=>xC σ.1 σ.2) (eo:=fun (_:ByteArray)=>(.exit 0)) (so:=fun (y:ByteArray)=>wR y) (QW) (fun _ h=>by cases h) FU (x,out)
def nM (a:List Int):Option ByteArray:=
 (jl a).bind fun x0=>
 bif ((x0.length:Nat):Int)==0 then
 some adD
 else
 (FD x0 XJ).bind fun x1=>
 some x1
theorem JV (a:List Int):∀r,nM a=some r→aj Tryz.prog 128 0 [SL (cI .u32) a] [] (SX r) []:=
 ak (enc:=fun r=>SX r) (aP:=fun r=>[]) 10 (.call [] [] (iQ a) .no fun x0=>.op 20002 (.ln (cI .u32) x0) (.br 100000012 (.ret adD) (.ps 1000001 [.k [3,4] []] (.lp1 0 (QL x0 XJ) fun x1=>.ret x1)))) Tryz.func128 (by kernel_rfl) (by kernel_rfl) (by kernel_rfl)
def jE (tA:TOp) (a:List Int):Option Int:=
 (uf tA).bind fun x0=>
 bif !x0 then
 some (-1)
 else
 bif tA.Code==1 then
 (EP tA.Num).bind fun x1=>
 bif !x1 then
 some (-1)
 else
 (nM tA.Num.Num).bind fun x2=>
 bif decide (((x2.size:Nat):Int)>40) then
 some (-1)
 else
 (nM tA.Num.Den).bind fun x3=>
 bif decide (((x3.size:Nat):Int)>40) then
 some (-1)
 else
 some 1
 else
 bif decide (tA.A_<0) then
 some (-1)
 else
 bif decide (tA.A_≥((a.length:Nat):Int)) then
 some (-1)
 else
 bif decide (tA.B_<0) then
 some (-1)
 else
 bif decide (tA.B_≥((a.length:Nat):Int)) then
 some (-1)
 else
 bif decide (tA.Exp<(-20)) then
 some (-1)
 else
 bif decide (tA.Exp>20) then
 some (-1)
 else
 bif decide (0≤tA.A_) then
 bif decide (tA.A_.toNat<a.length) then
 bif decide (tA.Code≤5) then
 bif decide (0≤tA.B_) then
 bif decide (tA.B_.toNat<a.length) then
 bif inK .i64 ((nth a tA.A_.toNat)+(nth a tA.B_.toNat)) then
 bif tA.Code==7 then
 bif decide (tA.Exp<0) then
 bif inK .i64 (0-tA.Exp) then
 bif inK .i64 (((nth a tA.A_.toNat)+(nth a tA.B_.toNat))*(0-tA.Exp)) then
 bif tA.Code==7 then
 bif decide (tA.Exp>0) then
 bif inK .i64 ((((nth a tA.A_.toNat)+(nth a tA.B_.toNat))*(0-tA.Exp))*tA.Exp) then
 some ((((nth a tA.A_.toNat)+(nth a tA.B_.toNat))*(0-tA.Exp))*tA.Exp)
 else none
 else
 some (((nth a tA.A_.toNat)+(nth a tA.B_.toNat))*(0-tA.Exp))
 else
 some (((nth a tA.A_.toNat)+(nth a tA.B_.toNat))*(0-tA.Exp))
 else none
 else none
 else
 bif tA.Code==7 then
 bif decide (tA.Exp>0) then
 bif inK .i64 (((nth a tA.A_.toNat)+(nth a tA.B_.toNat))*tA.Exp) then
 some (((nth a tA.A_.toNat)+(nth a tA.B_.toNat))*tA.Exp)
 else none
 else
 some ((nth a tA.A_.toNat)+(nth a tA.B_.toNat))
 else
 some ((nth a tA.A_.toNat)+(nth a tA.B_.toNat))
 else
 bif tA.Code==7 then
 bif decide (tA.Exp>0) then
 bif inK .i64 (((nth a tA.A_.toNat)+(nth a tA.B_.toNat))*tA.Exp) then
 some (((nth a tA.A_.toNat)+(nth a tA.B_.toNat))*tA.Exp)
 else none
 else
 some ((nth a tA.A_.toNat)+(nth a tA.B_.toNat))
 else
 some ((nth a tA.A_.toNat)+(nth a tA.B_.toNat))
 else none
 else none
 else none
 else
 bif tA.Code==7 then
 bif decide (tA.Exp<0) then
 bif inK .i64 (0-tA.Exp) then
 bif inK .i64 ((nth a tA.A_.toNat)*(0-tA.Exp)) then
 bif tA.Code==7 then
 bif decide (tA.Exp>0) then
 bif inK .i64 (((nth a tA.A_.toNat)*(0-tA.Exp))*tA.Exp) then
 some (((nth a tA.A_.toNat)*(0-tA.Exp))*tA.Exp)
 else none
 else
 some ((nth a tA.A_.toNat)*(0-tA.Exp))
 else
 some ((nth a tA.A_.toNat)*(0-tA.Exp))
 else none
 else none
 else
 bif tA.Code==7 then
 bif decide (tA.Exp>0) then
 bif inK .i64 ((nth a tA.A_.toNat)*tA.Exp) then
 some ((nth a tA.A_.toNat)*tA.Exp)
 else none
 else
 some (nth a tA.A_.toNat)
 else
 some (nth a tA.A_.toNat)
 else
 bif tA.Code==7 then
 bif decide (tA.Exp>0) then
 bif inK .i64 ((nth a tA.A_.toNat)*tA.Exp) then
 some ((nth a tA.A_.toNat)*tA.Exp)
 else none
 else
 some (nth a tA.A_.toNat)
 else
 some (nth a tA.A_.toNat)
 else none
 else none
theorem sS (tA:TOp) (a:List Int):∀r,jE tA a=some r→aj Tryz.prog 71 0 [AG TOp.D tA,SL (cI .i64) a] [] (I r) []:=
 ak (enc:=fun r=>I r) (aP:=fun r=>[]) 10 (.call [] [] (Xb tA) .no fun x0=>.br 100000011 (.ret (-1)) (.br 100000014 (.call [] [] (WJ tA.Num) .no fun x1=>.br 60006 (.ret (-1)) (.call [] [] (JV tA.Num.Num) .no fun x2=>.br 60022 (.ret (-1)) (.call [] [] (JV tA.Num.Den) .no fun x3=>.br 100000035 (.ret (-1)) (.ret 1)))) (.br 90008 (.ret (-1)) (.op 90014 (.ln (cI .i64) a) (.br 90022 (.ret (-1)) (.br 90032 (.ret (-1)) (.op 90038 (.ln (cI .i64) a) (.br 90046 (.ret (-1)) (.br 90056 (.ret (-1)) (.br 100000067 (.ret (-1)) (.op 110006 (.el (cI .i64) a .dn) (.br 100000075 (.op 130008 (.el (cI .i64) a .dn) (.br 140008 (.br 100000090 (.br 160008 (.br 100000103 (.ret ((((nth a tA.A_.toNat)+(nth a tA.B_.toNat))*(0-tA.Exp))*tA.Exp)) (.ret (((nth a tA.A_.toNat)+(nth a tA.B_.toNat))*(0-tA.Exp)))) (.ret (((nth a tA.A_.toNat)+(nth a tA.B_.toNat))*(0-tA.Exp)))) (.br 160008 (.br 100000103 (.ret (((nth a tA.A_.toNat)+(nth a tA.B_.toNat))*tA.Exp)) (.ret ((nth a tA.A_.toNat)+(nth a tA.B_.toNat)))) (.ret ((nth a tA.A_.toNat)+(nth a tA.B_.toNat))))) (.br 160008 (.br 100000103 (.ret (((nth a tA.A_.toNat)+(nth a tA.B_.toNat))*tA.Exp)) (.ret ((nth a tA.A_.toNat)+(nth a tA.B_.toNat)))) (.ret ((nth a tA.A_.toNat)+(nth a tA.B_.toNat)))))) (.br 140008 (.br 100000090 (.br 160008 (.br 100000103 (.ret (((nth a tA.A_.toNat)*(0-tA.Exp))*tA.Exp)) (.ret ((nth a tA.A_.toNat)*(0-tA.Exp)))) (.ret ((nth a tA.A_.toNat)*(0-tA.Exp)))) (.br 160008 (.br 100000103 (.ret ((nth a tA.A_.toNat)*tA.Exp)) (.ret (nth a tA.A_.toNat))) (.ret (nth a tA.A_.toNat)))) (.br 160008 (.br 100000103 (.ret ((nth a tA.A_.toNat)*tA.Exp)) (.ret (nth a tA.A_.toNat))) (.ret (nth a tA.A_.toNat)))))))))))))))) Tryz.func71 (by kernel_rfl) (by kernel_rfl) (by kernel_rfl)
def AQ (tA:Int) (a:List Int) (a1:List aI) (a2:Int) (i:List Int) (i1:Nat):St:=⟨108,0,[(1,SL (cI .u8) a),(2,SL aI.D a1),(3,I a2),(8,.ptr 10 0 0),(9,.ptr 11 0 0),(10,bZ 100028 i),(11,I ((i1:Nat):Int))],[(10,BOX [I 0,gq,gq]),(11,BOX [I (1+(tA%3)),gq,gq]),(100028,dG 1 (cI .i64) i)]⟩
def Am (tA:Int) (a:List Int) (a1:List aI) (a2:Int) (i:List Int):St:=⟨108,0,[(1,SL (cI .u8) a),(2,SL aI.D a1),(3,I a2),(8,.ptr 10 0 0),(9,.ptr 11 0 0),(10,bZ 100028 i)],[(10,BOX [I 0,gq,gq]),(11,BOX [I (1+(tA%3)),gq,gq]),(100028,dG 1 (cI .i64) i)]⟩
def og (tA:Int) (a:List Int) (a1:List aI) (a2:Int) (i:List Int) (i1:Nat):Option ((List Int×Nat)⊕(List Int)):=
 bif decide (((i1:Nat):Int)<(1+(tA%3))) then
 bif decide (i.length+1≤2147483648) then
 bif inK .i64 (((i1:Nat):Int)+1) then
 some (.inl (i++[1],i1+1))
 else none
 else none
 else
 some (.inr i)
theorem Uk (tA:Int) (a:List Int) (a1:List aI) (a2:Int):∀σ:List Int×Nat,aJ Tryz.prog (nav [1,1,1,0,1,0,0] (ah Tryz.f27)) (fun (σ:List Int×Nat)=>AQ tA a a1 a2 σ.1 σ.2) (fun (_:List Int)=>(.exit 0)) (fun (y:List Int)=>Am tA a a1 a2 y) σ (og tA a a1 a2 σ.1 σ.2)
 | ([],i1)=>aB 1010 (.br 100000024 (.op 60004 (.ap (cI .i64) [] [1] 1 fun _=>⟨rfl,rfl⟩) (.ps 1000003 [.k [1,2,3,8,9,10,11] [10,11,1011],.m 1011 100028] (.ret (.inl ([1],i1+1))))) (.ps 1000003 [.k [1,2,3,8,9,10] [10,11,100028]] (.ret (.inr [])))) (by kernel_rfl)
 | (i_h::i_t,i1)=>aB 1010 (.br 100000024 (.op 60004 (.ap (cI .i64) (i_h::i_t) [1] 1 fun _=>⟨rfl,rfl⟩) (.ps 1000003 [.k [1,2,3,8,9,10,11] [10,11,1011],.m 1011 100028] (.ret (.inl ((i_h::i_t)++[1],i1+1))))) (.ps 1000003 [.k [1,2,3,8,9,10] [10,11,100028]] (.ret (.inr (i_h::i_t))))) (by kernel_rfl)
def BF (tA:Int) (a:List Int) (a1:List aI) (a2:Int) (i:List Int) (i1:Nat):Option (List Int):=aK (fun (σ:List Int×Nat)=>og tA a a1 a2 σ.1 σ.2) FU (i,i1)
theorem Ui (tA:Int) (a:List Int) (a1:List aI) (a2:Int) (i:List Int) (i1:Nat):∀y:List Int,BF tA a a1 a2 i i1=some y→Runs Tryz.prog (.loop (nav [1,1,1,0,1,0,0] (ah Tryz.f27))) (AQ tA a a1 a2 i i1) ((.exit 0)) ((fun (y:List Int)=>Am tA a a1 a2 y) y):=
 aU (head:=fun (σ:List Int×Nat)=>AQ tA a a1 a2 σ.1 σ.2) (eo:=fun (_:List Int)=>(.exit 0)) (so:=fun (y:List Int)=>Am tA a a1 a2 y) (Uk tA a a1 a2) (fun _ h=>by cases h) FU (i,i1)
def Kr (t:aI) (n:Int):Option TOp:=
 bif decide (0≤t.Op) then
 bif decide (0<7) then
 bif inK .i64 (t.Op%7) then
 bif inK .i64 (1+(t.Op%7)) then
 bif inK .i64 t.A_ then
 bif decide (0≤t.A_) then
 bif decide (0<n) then
 bif inK .i64 t.B_ then
 bif decide (0≤t.B_) then
 bif decide (0<n) then
 bif (1+(t.Op%7))==1 then
 bif decide (0≤t.B_) then
 bif decide (0<5) then
 (nN (IntKind.wrap .i8 t.N) (t.B_%5)).bind fun x0=>
 some (TOp.mk 1 0 0 0 x0)
 else none
 else none
 else
 bif decide ((1+(t.Op%7))≤5) then
 some (TOp.mk (1+(t.Op%7)) (t.A_%n) (t.B_%n) 0 (Rat.mk false [] []))
 else
 bif (1+(t.Op%7))==6 then
 some (TOp.mk 6 (t.A_%n) 0 0 (Rat.mk false [] []))
 else
 bif decide (0≤t.N) then
 bif decide (0<7) then
 bif inK .i64 (t.N%7) then
 bif inK .i64 ((t.N%7)-3) then
 some (TOp.mk 7 (t.A_%n) 0 ((t.N%7)-3) (Rat.mk false [] []))
 else none
 else none
 else none
 else none
 else none
 else none
 else none
 else none
 else none
 else none
 else none
 else none
 else none
 else none
theorem ES (t:aI) (n:Int):∀r,Kr t n=some r→aj Tryz.prog 70 0 [AG aI.D t,I n] [] (AG TOp.D r) []:=
 ak (enc:=fun r=>AG TOp.D r) (aP:=fun r=>[]) 10 (.br 100000023 (.op 50004 .wr (.call [] [] (jU (IntKind.wrap .i8 t.N) (t.B_%5)) .no fun x0=>.ret (TOp.mk 1 0 0 0 x0))) (.br 100000034 (.ps 1000003 [.b 11] (.ret (TOp.mk (1+(t.Op%7)) (t.A_%n) (t.B_%n) 0 (Rat.mk false [] [])))) (.br 100000041 (.ps 1000003 [.b 11] (.ret (TOp.mk 6 (t.A_%n) 0 0 (Rat.mk false [] [])))) (.ps 1000003 [.b 11] (.ret (TOp.mk 7 (t.A_%n) 0 ((t.N%7)-3) (Rat.mk false [] []))))))) Tryz.func70 (by kernel_rfl) (by kernel_rfl) (by kernel_rfl)
def wo (tA:Int) (a:List Int) (a1:List aI) (a2:Int) (i:List Int) (i1:Nat) (o:List TOp):St:=⟨108,0,[(1,SL (cI .u8) a),(2,SL aI.D a1),(3,I a2),(8,.ptr 10 0 0),(9,.ptr 11 0 0),(10,bZ 100028 i),(12,I ((i1:Nat):Int))],[(10,BOX [I 0,gq,gq]),(11,BOX [I (1+(tA%3)),bZ 100029 o,gq]),(100028,dG 1 (cI .i64) i),(100029,dG 7 TOp.D o)]⟩
def vP (tA:Int) (a:List Int) (a1:List aI) (a2:Int) (i:List Int) (o:List TOp):St:=⟨108,0,[(1,SL (cI .u8) a),(8,.ptr 10 0 0),(9,.ptr 11 0 0),(10,bZ 100028 i)],[(10,BOX [I 0,gq,gq]),(11,BOX [I (1+(tA%3)),bZ 100029 o,gq]),(100028,dG 1 (cI .i64) i),(100029,dG 7 TOp.D o)]⟩
def jg (tA:Int) (a:List Int) (a1:List aI) (a2:Int) (i:List Int) (i1:Nat) (o:List TOp):Option ((List Int×Nat×List TOp)⊕(List Int×List TOp)):=
 bif decide (((i1:Nat):Int)<((a1.length:Nat):Int)) then
 bif decide (((i1:Nat):Int)<a2) then
 bif decide (i1<a1.length) then
 (Kr (nth a1 i1) ((i.length:Nat):Int)).bind fun x1=>
 (jE x1 i).bind fun x2=>
 bif decide (x2>12) then
 bif decide (i1<a1.length) then
 (nN (IntKind.wrap .i8 ((nth a1 i1).N)) 0).bind fun x3=>
 bif decide (o.length+1≤2147483648) then
 bif decide (i.length+1≤2147483648) then
 bif inK .i64 (((i1:Nat):Int)+1) then
 some (.inl (i++[1],i1+1,o++[TOp.mk 1 0 0 0 x3]))
 else none
 else none
 else none
 else none
 else
 bif decide (o.length+1≤2147483648) then
 bif decide (i.length+1≤2147483648) then
 bif inK .i64 (((i1:Nat):Int)+1) then
 some (.inl (i++[x2],i1+1,o++[x1]))
 else none
 else none
 else none
 else none
 else
 some (.inr (i,o))
 else
 some (.inr (i,o))
theorem O8 (tA:Int) (a:List Int) (a1:List aI) (a2:Int):∀σ:List Int×Nat×List TOp,aJ Tryz.prog (nav [1,1,1,1,0,1,0,0] (ah Tryz.f27)) (fun (σ:List Int×Nat×List TOp)=>wo tA a a1 a2 σ.1 σ.2.1 σ.2.2) (fun (_:List Int×List TOp)=>(.exit 2)) (fun (y:List Int×List TOp)=>vP tA a a1 a2 y.1 y.2) σ (jg tA a a1 a2 σ.1 σ.2.1 σ.2.2)
 | ([],i1,[])=>aB 1010 (.op 80004 (.ln aI.D a1) (.br 80010 (.br 100000038 (.op 100004 (.el aI.D a1 (.up i1)) (.call [] [] (ES (nth a1 i1) 0) .no fun x1=>.call [] [] (sS x1 []) .no fun x2=>.br 100000052 (.op 130004 (.el aI.D a1 (.up i1)) (.op 130010 .wr (.call [] [] (jU (IntKind.wrap .i8 ((nth a1 i1).N)) 0) .no fun x3=>.op 150008 (.ap TOp.D [] [TOp.mk 1 0 0 0 x3] 7 fun _=>⟨rfl,rfl⟩) (.op 160006 (.ap (cI .i64) [] [1] 1 fun _=>⟨rfl,rfl⟩) (.ps 1000003 [.k [1,2,3,8,9,10,12] [10,11,1014,1012],.m 1014 100028,.m 1012 100029] (.ret (.inl ([1],i1+1,[TOp.mk 1 0 0 0 x3])))))))) (.op 150008 (.ap TOp.D [] [x1] 7 fun _=>⟨rfl,rfl⟩) (.op 160006 (.ap (cI .i64) [] [x2] 1 fun _=>⟨rfl,rfl⟩) (.ps 1000003 [.k [1,2,3,8,9,10,12] [10,11,1014,1012],.m 1014 100028,.m 1012 100029] (.ret (.inl ([x2],i1+1,[x1])))))))) (.ps 1000003 [.k [1,8,9,10] [10,11,100028,100029]] (.ret (.inr ([],[]))))) (.ps 1000003 [.k [1,8,9,10] [10,11,100028,100029]] (.ret (.inr ([],[])))))) (by kernel_rfl)
 | ([],i1,o_h::o_t)=>aB 1010 (.op 80004 (.ln aI.D a1) (.br 80010 (.br 100000038 (.op 100004 (.el aI.D a1 (.up i1)) (.call [] [] (ES (nth a1 i1) 0) .no fun x1=>.call [] [] (sS x1 []) .no fun x2=>.br 100000052 (.op 130004 (.el aI.D a1 (.up i1)) (.op 130010 .wr (.call [] [] (jU (IntKind.wrap .i8 ((nth a1 i1).N)) 0) .no fun x3=>.op 150008 (.ap TOp.D (o_h::o_t) [TOp.mk 1 0 0 0 x3] 7 fun _=>⟨rfl,rfl⟩) (.op 160006 (.ap (cI .i64) [] [1] 1 fun _=>⟨rfl,rfl⟩) (.ps 1000003 [.k [1,2,3,8,9,10,12] [10,11,1014,1012],.m 1014 100028,.m 1012 100029] (.ret (.inl ([1],i1+1,(o_h::o_t)++[TOp.mk 1 0 0 0 x3])))))))) (.op 150008 (.ap TOp.D (o_h::o_t) [x1] 7 fun _=>⟨rfl,rfl⟩) (.op 160006 (.ap (cI .i64) [] [x2] 1 fun _=>⟨rfl,rfl⟩) (.ps 1000003 [.k [1,2,3,8,9,10,12] [10,11,1014,1012],.m 1014 100028,.m 1012 100029] (.ret (.inl ([x2],i1+1,(o_h::o_t)++[x1])))))))) (.ps 1000003 [.k [1,8,9,10] [10,11,100028,100029]] (.ret (.inr ([],(o_h::o_t)))))) (.ps 1000003 [.k [1,8,9,10] [10,11,100028,100029]] (.ret (.inr ([],(o_h::o_t))))))) (by kernel_rfl)
 | (i_h::i_t,i1,[])=>aB 1010 (.op 80004 (.ln aI.D a1) (.br 80010 (.br 100000038 (.op 100004 (.el aI.D a1 (.up i1)) (.op 100010 (.ln (cI .i64) (i_h::i_t)) (.call [] [] (ES (nth a1 i1) (((i_h::i_t).length:Nat):Int)) .no fun x1=>.call [] [] (sS x1 (i_h::i_t)) (.yes fun _=>⟨rfl,trivial⟩) fun x2=>.br 100000052 (.op 130004 (.el aI.D a1 (.up i1)) (.op 130010 .wr (.call [] [] (jU (IntKind.wrap .i8 ((nth a1 i1).N)) 0) .no fun x3=>.op 150008 (.ap TOp.D [] [TOp.mk 1 0 0 0 x3] 7 fun _=>⟨rfl,rfl⟩) (.op 160006 (.ap (cI .i64) (i_h::i_t) [1] 1 fun _=>⟨rfl,rfl⟩) (.ps 1000003 [.k [1,2,3,8,9,10,12] [10,11,1014,1012],.m 1014 100028,.m 1012 100029] (.ret (.inl ((i_h::i_t)++[1],i1+1,[TOp.mk 1 0 0 0 x3])))))))) (.op 150008 (.ap TOp.D [] [x1] 7 fun _=>⟨rfl,rfl⟩) (.op 160006 (.ap (cI .i64) (i_h::i_t) [x2] 1 fun _=>⟨rfl,rfl⟩) (.ps 1000003 [.k [1,2,3,8,9,10,12] [10,11,1014,1012],.m 1014 100028,.m 1012 100029] (.ret (.inl ((i_h::i_t)++[x2],i1+1,[x1]))))))))) (.ps 1000003 [.k [1,8,9,10] [10,11,100028,100029]] (.ret (.inr ((i_h::i_t),[]))))) (.ps 1000003 [.k [1,8,9,10] [10,11,100028,100029]] (.ret (.inr ((i_h::i_t),[])))))) (by kernel_rfl)
 | (i_h::i_t,i1,o_h::o_t)=>aB 1010 (.op 80004 (.ln aI.D a1) (.br 80010 (.br 100000038 (.op 100004 (.el aI.D a1 (.up i1)) (.op 100010 (.ln (cI .i64) (i_h::i_t)) (.call [] [] (ES (nth a1 i1) (((i_h::i_t).length:Nat):Int)) .no fun x1=>.call [] [] (sS x1 (i_h::i_t)) (.yes fun _=>⟨rfl,trivial⟩) fun x2=>.br 100000052 (.op 130004 (.el aI.D a1 (.up i1)) (.op 130010 .wr (.call [] [] (jU (IntKind.wrap .i8 ((nth a1 i1).N)) 0) .no fun x3=>.op 150008 (.ap TOp.D (o_h::o_t) [TOp.mk 1 0 0 0 x3] 7 fun _=>⟨rfl,rfl⟩) (.op 160006 (.ap (cI .i64) (i_h::i_t) [1] 1 fun _=>⟨rfl,rfl⟩) (.ps 1000003 [.k [1,2,3,8,9,10,12] [10,11,1014,1012],.m 1014 100028,.m 1012 100029] (.ret (.inl ((i_h::i_t)++[1],i1+1,(o_h::o_t)++[TOp.mk 1 0 0 0 x3])))))))) (.op 150008 (.ap TOp.D (o_h::o_t) [x1] 7 fun _=>⟨rfl,rfl⟩) (.op 160006 (.ap (cI .i64) (i_h::i_t) [x2] 1 fun _=>⟨rfl,rfl⟩) (.ps 1000003 [.k [1,2,3,8,9,10,12] [10,11,1014,1012],.m 1014 100028,.m 1012 100029] (.ret (.inl ((i_h::i_t)++[x2],i1+1,(o_h::o_t)++[x1]))))))))) (.ps 1000003 [.k [1,8,9,10] [10,11,100028,100029]] (.ret (.inr ((i_h::i_t),(o_h::o_t)))))) (.ps 1000003 [.k [1,8,9,10] [10,11,100028,100029]] (.ret (.inr ((i_h::i_t),(o_h::o_t))))))) (by kernel_rfl)
def qp (tA:Int) (a:List Int) (a1:List aI) (a2:Int) (i:List Int) (i1:Nat) (o:List TOp):Option (List Int×List TOp):=aK (fun (σ:List Int×Nat×List TOp)=>jg tA a a1 a2 σ.1 σ.2.1 σ.2.2) FU (i,i1,o)
theorem Fa (tA:Int) (a:List Int) (a1:List aI) (a2:Int) (i:List Int) (i1:Nat) (o:List TOp):∀y:List Int×List TOp,qp tA a a1 a2 i i1 o=some y→Runs Tryz.prog (.loop (nav [1,1,1,1,0,1,0,0] (ah Tryz.f27))) (wo tA a a1 a2 i i1 o) ((.exit 2)) ((fun (y:List Int×List TOp)=>vP tA a a1 a2 y.1 y.2) y):=
 aU (head:=fun (σ:List Int×Nat×List TOp)=>wo tA a a1 a2 σ.1 σ.2.1 σ.2.2) (eo:=fun (_:List Int×List TOp)=>(.exit 2)) (so:=fun (y:List Int×List TOp)=>vP tA a a1 a2 y.1 y.2) (O8 tA a a1 a2) (fun _ h=>by cases h) FU (i,i1,o)
def uM (tA:Int) (a:List Int) (x1:List Int×List TOp) (i:Nat) (o:List Int):St:=⟨108,0,[(1,SL (cI .u8) a),(8,.ptr 10 0 0),(9,.ptr 11 0 0),(10,SL (cI .i64) x1.1),(15,I ((i:Nat):Int))],[(10,BOX [I 0,gq,gq]),(11,BOX [I (1+(tA%3)),SL TOp.D x1.2,bZ 100032 o]),(100032,dG 1 (cI .i64) o)]⟩
def vF (tA:Int) (a:List Int) (x1:List Int×List TOp) (o:List Int):St:=⟨108,0,[(8,.ptr 10 0 0),(9,.ptr 11 0 0),(10,SL (cI .i64) x1.1)],[(10,BOX [I 0,gq,gq]),(11,BOX [I (1+(tA%3)),SL TOp.D x1.2,bZ 100032 o]),(100032,dG 1 (cI .i64) o)]⟩
def lI (tA:Int) (a:List Int) (x1:List Int×List TOp) (i:Nat) (o:List Int):Option ((Nat×List Int)⊕(List Int)):=
 bif decide (((i:Nat):Int)<((a.length:Nat):Int)) then
 bif decide (((i:Nat):Int)<3) then
 bif inK .i64 (((x1.1.length:Nat):Int)-1) then
 bif decide (i<a.length) then
 bif inK .i64 (nth a i) then
 bif decide (0≤nth a i) then
 bif decide (0<((x1.1.length:Nat):Int)) then
 bif inK .i64 ((((x1.1.length:Nat):Int)-1)-((nth a i)%((x1.1.length:Nat):Int))) then
 bif decide (o.length+1≤2147483648) then
 bif inK .i64 (((i:Nat):Int)+1) then
 some (.inl (i+1,o++[(((x1.1.length:Nat):Int)-1)-((nth a i)%((x1.1.length:Nat):Int))]))
 else none
 else none
 else none
 else none
 else none
 else none
 else none
 else none
 else
 some (.inr o)
 else
 some (.inr o)
theorem NW (tA:Int) (a:List Int) (x1:List Int×List TOp):∀σ:Nat×List Int,aJ Tryz.prog (nav [1,1,1,1,1,0,1,0,0] (ah Tryz.f27)) (fun (σ:Nat×List Int)=>uM tA a x1 σ.1 σ.2) (fun (_:List Int)=>(.exit 4)) (fun (y:List Int)=>vF tA a x1 y) σ (lI tA a x1 σ.1 σ.2)
 | (i,[])=>aB 1010 (.op 180004 (.ln (cI .u8) a) (.br 180010 (.br 100000078 (.op 200006 (.ln (cI .i64) x1.1) (.op 200014 (.el (cI .u8) a (.up i)) (.op 200022 (.ln (cI .i64) x1.1) (.op 200030 (.ap (cI .i64) [] [(((x1.1.length:Nat):Int)-1)-((nth a i)%((x1.1.length:Nat):Int))] 1 fun _=>⟨rfl,rfl⟩) (.ps 1000003 [.k [1,8,9,10,15] [10,11,1011],.m 1011 100032] (.ret (.inl (i+1,[(((x1.1.length:Nat):Int)-1)-((nth a i)%((x1.1.length:Nat):Int))])))))))) (.ps 1000003 [.k [8,9,10] [10,11,100032]] (.ret (.inr [])))) (.ps 1000003 [.k [8,9,10] [10,11,100032]] (.ret (.inr []))))) (by kernel_rfl)
 | (i,o_h::o_t)=>aB 1010 (.op 180004 (.ln (cI .u8) a) (.br 180010 (.br 100000078 (.op 200006 (.ln (cI .i64) x1.1) (.op 200014 (.el (cI .u8) a (.up i)) (.op 200022 (.ln (cI .i64) x1.1) (.op 200030 (.ap (cI .i64) (o_h::o_t) [(((x1.1.length:Nat):Int)-1)-((nth a i)%((x1.1.length:Nat):Int))] 1 fun _=>⟨rfl,rfl⟩) (.ps 1000003 [.k [1,8,9,10,15] [10,11,1011],.m 1011 100032] (.ret (.inl (i+1,(o_h::o_t)++[(((x1.1.length:Nat):Int)-1)-((nth a i)%((x1.1.length:Nat):Int))])))))))) (.ps 1000003 [.k [8,9,10] [10,11,100032]] (.ret (.inr (o_h::o_t))))) (.ps 1000003 [.k [8,9,10] [10,11,100032]] (.ret (.inr (o_h::o_t)))))) (by kernel_rfl)
def pW (tA:Int) (a:List Int) (x1:List Int×List TOp) (i:Nat) (o:List Int):Option (List Int):=aK (fun (σ:Nat×List Int)=>lI tA a x1 σ.1 σ.2) FU (i,o)
theorem E5 (tA:Int) (a:List Int) (x1:List Int×List TOp) (i:Nat) (o:List Int):∀y:List Int,pW tA a x1 i o=some y→Runs Tryz.prog (.loop (nav [1,1,1,1,1,0,1,0,0] (ah Tryz.f27))) (uM tA a x1 i o) ((.exit 4)) ((fun (y:List Int)=>vF tA a x1 y) y):=
 aU (head:=fun (σ:Nat×List Int)=>uM tA a x1 σ.1 σ.2) (eo:=fun (_:List Int)=>(.exit 4)) (so:=fun (y:List Int)=>vF tA a x1 y) (NW tA a x1) (fun _ h=>by cases h) FU (i,o)
def Dl (tA:Int) (a:List Int) (a1:List aI) (a2:Int):Option Tape:=
 bif decide (0≤tA) then
 bif decide (0<3) then
 bif inK .i64 (tA%3) then
 bif inK .i64 (1+(tA%3)) then
 (BF tA a a1 a2 [] 0).bind fun x0=>
 bif x0.isEmpty then
 (qp tA a a1 a2 [] 0 []).bind fun x1=>
 (pW tA a x1 0 []).bind fun x2=>
 bif ((x2.length:Nat):Int)==0 then
 bif inK .i64 (((x1.1.length:Nat):Int)-1) then
 some (Tape.mk (1+(tA%3)) x1.2 [((x1.1.length:Nat):Int)-1])
 else none
 else
 some (Tape.mk (1+(tA%3)) x1.2 x2)
 else
 bif !x0.isEmpty then
 (qp tA a a1 a2 x0 0 []).bind fun x1=>
 (pW tA a x1 0 []).bind fun x2=>
 bif ((x2.length:Nat):Int)==0 then
 bif inK .i64 (((x1.1.length:Nat):Int)-1) then
 some (Tape.mk (1+(tA%3)) x1.2 [((x1.1.length:Nat):Int)-1])
 else none
 else
 some (Tape.mk (1+(tA%3)) x1.2 x2)
 else none
 else none
 else none
 else none
 else none
theorem Xc (tA:Int) (a:List Int) (a1:List aI) (a2:Int):∀r,Dl tA a a1 a2=some r→aj Tryz.prog 27 0 [NI .u8 tA,SL (cI .u8) a,SL aI.D a1,I a2] [] (AG Tape.D r) []:=
 ak (enc:=fun r=>AG Tape.D r) (aP:=fun r=>[]) 10 (.ps 1000001 [.k [1,2,3,8,9,10,11] [10,11,100028]] (.lp1 0 (Ui tA a a1 a2 [] 0) fun x0=>.cl 1 10 100028 1 (cI .i64) x0 (.ps 1 [.k [1,2,3,8,9,10] [10,11]] (.ps 1000001 [.k [1,2,3,8,9,10,12] [10,11,100028,100029]] (.lp1 0 (Fa tA a a1 a2 [] 0 []) fun x1=>.oz 5 10 100028 1 (cI .i64) x1.1 (.ob 5 11 1 100029 7 TOp.D x1.2 (.ps 5 [.k [1,8,9,10] [10,11]] (.ps 1000001 [.k [1,8,9,10,15] [10,11,100032]] (.lp1 0 (E5 tA a x1 0 []) fun x2=>.ob 9 11 2 100032 1 (cI .i64) x2 (.ps 9 [.k [8,9,10] [10,11]] (.op 210004 (.ln (cI .i64) x2) (.br 100000101 (.op 220002 (.ln (cI .i64) x1.1) (.ps 1000003 [.b 10] (.ret (Tape.mk (1+(tA%3)) x1.2 [((x1.1.length:Nat):Int)-1])))) (.ret (Tape.mk (1+(tA%3)) x1.2 x2)))))))))))) (.ps 1 [.k [1,2,3,8,9,10] [10,11,100028]] (.ps 1000001 [.k [1,2,3,8,9,10,12] [10,11,100028,100029]] (.ow 1000001 10 100028 1 (cI .i64) x0 .no (.ps 1000001 [.k [1,2,3,8,9,10,12] [10,11,100028,100029]] (.lp1 0 (Fa tA a a1 a2 x0 0 []) fun x1=>.oz 5 10 100028 1 (cI .i64) x1.1 (.ob 5 11 1 100029 7 TOp.D x1.2 (.ps 5 [.k [1,8,9,10] [10,11]] (.ps 1000001 [.k [1,8,9,10,15] [10,11,100032]] (.lp1 0 (E5 tA a x1 0 []) fun x2=>.ob 9 11 2 100032 1 (cI .i64) x2 (.ps 9 [.k [8,9,10] [10,11]] (.op 210004 (.ln (cI .i64) x2) (.br 100000101 (.op 220002 (.ln (cI .i64) x1.1) (.ps 1000003 [.b 10] (.ret (Tape.mk (1+(tA%3)) x1.2 [((x1.1.length:Nat):Int)-1])))) (.ret (Tape.mk (1+(tA%3)) x1.2 x2)))))))))))))))) Tryz.func27 (by kernel_rfl) (by kernel_rfl) (by kernel_rfl)
def xW (n:Int) (l:List lT) (out:List Rat) (i:Nat):St:=⟨36,0,[(0,I n),(1,SL lT.D l),(5,bZ 100033 out),(6,I ((i:Nat):Int))],[(100033,dG 3 Rat.D out)]⟩
def wS (n:Int) (l:List lT) (out:List Rat):St:=⟨36,0,[(5,bZ 100033 out)],[(100033,dG 3 Rat.D out)]⟩
def jS (n:Int) (l:List lT) (out:List Rat) (i:Nat):Option ((List Rat×Nat)⊕(List Rat)):=
 bif decide (((i:Nat):Int)<n) then
 bif decide (((i:Nat):Int)<((l.length:Nat):Int)) then
 bif decide (i<l.length) then
 bif decide (i<l.length) then
 bif decide (0≤(nth l i).D_) then
 bif decide (0<4) then
 (nN ((nth l i).N) (((nth l i).D_)%4)).bind fun x0=>
 bif decide (out.length+1≤2147483648) then
 bif inK .i64 (((i:Nat):Int)+1) then
 some (.inl (out++[x0],i+1))
 else none
 else none
 else none
 else none
 else none
 else none
 else
 (Js 0).bind fun x0=>
 bif decide (out.length+1≤2147483648) then
 bif inK .i64 (((i:Nat):Int)+1) then
 some (.inl (out++[x0],i+1))
 else none
 else none
 else
 some (.inr out)
theorem Qn (n:Int) (l:List lT):∀σ:List Rat×Nat,aJ Tryz.prog (nav [1,1,0,1,0,0] (ah Tryz.f12)) (fun (σ:List Rat×Nat)=>xW n l σ.1 σ.2) (fun (_:List Rat)=>(.exit 0)) (fun (y:List Rat)=>wS n l y) σ (jS n l σ.1 σ.2)
 | ([],i)=>aB 1010 (.br 100000009 (.op 50004 (.ln lT.D l) (.br 100000015 (.op 60006 (.el lT.D l (.up i)) (.op 60016 (.el lT.D l (.up i)) (.call [] [] (jU ((nth l i).N) (((nth l i).D_)%4)) .no fun x0=>.op 60028 (.ap Rat.D [] [x0] 3 fun _=>⟨rfl,rfl⟩) (.ps 1000003 [.k [0,1,5,6] [1011],.m 1011 100033] (.ret (.inl ([x0],i+1))))))) (.call [] [] (RN 0) .no fun x0=>.op 70006 (.ap Rat.D [] [x0] 3 fun _=>⟨rfl,rfl⟩) (.ps 1000003 [.k [0,1,5,6] [1011],.m 1011 100033] (.ret (.inl ([x0],i+1))))))) (.ps 1000003 [.k [5] [100033]] (.ret (.inr [])))) (by kernel_rfl)
 | (dK::dM,i)=>aB 1010 (.br 100000009 (.op 50004 (.ln lT.D l) (.br 100000015 (.op 60006 (.el lT.D l (.up i)) (.op 60016 (.el lT.D l (.up i)) (.call [] [] (jU ((nth l i).N) (((nth l i).D_)%4)) .no fun x0=>.op 60028 (.ap Rat.D (dK::dM) [x0] 3 fun _=>⟨rfl,rfl⟩) (.ps 1000003 [.k [0,1,5,6] [1011],.m 1011 100033] (.ret (.inl ((dK::dM)++[x0],i+1))))))) (.call [] [] (RN 0) .no fun x0=>.op 70006 (.ap Rat.D (dK::dM) [x0] 3 fun _=>⟨rfl,rfl⟩) (.ps 1000003 [.k [0,1,5,6] [1011],.m 1011 100033] (.ret (.inl ((dK::dM)++[x0],i+1))))))) (.ps 1000003 [.k [5] [100033]] (.ret (.inr (dK::dM))))) (by kernel_rfl)
def yF (n:Int) (l:List lT) (out:List Rat) (i:Nat):Option (List Rat):=aK (fun (σ:List Rat×Nat)=>jS n l σ.1 σ.2) FU (out,i)
theorem Ql (n:Int) (l:List lT) (out:List Rat) (i:Nat):∀y:List Rat,yF n l out i=some y→Runs Tryz.prog (.loop (nav [1,1,0,1,0,0] (ah Tryz.f12))) (xW n l out i) ((.exit 0)) ((fun (y:List Rat)=>wS n l y) y):=
 aU (head:=fun (σ:List Rat×Nat)=>xW n l σ.1 σ.2) (eo:=fun (_:List Rat)=>(.exit 0)) (so:=fun (y:List Rat)=>wS n l y) (Qn n l) (fun _ h=>by cases h) FU (out,i)
def Fb (n:Int) (l:List lT):Option (List Rat):=
 (yF n l [] 0).bind fun x0=>
 some x0
theorem Vj (n:Int) (l:List lT):∀r,Fb n l=some r→aj Tryz.prog 12 0 [I n,SL lT.D l] [] (SL Rat.D r) []:=
 ak (enc:=fun r=>SL Rat.D r) (aP:=fun r=>[]) 10 (.ps 1000001 [.k [0,1,5,6] [100033]] (.lp1 0 (Ql n l [] 0) fun x0=>.oz 1 5 100033 3 Rat.D x0 (.ps 1 [.k [5] []] (.ret x0)))) Tryz.func12 (by kernel_rfl) (by kernel_rfl) (by kernel_rfl)
end Go.Ab.M
