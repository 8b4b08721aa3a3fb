/- A part of the proof: a logic proved sound over the model; contracts; plain laws. -/
import Derived.Test.YteeaefidpkifbaaGE
import Derived.Test.YteeaefidpkifbaaH1D
set_option linter.all false
open Go Go.Proofs
namespace GoL
set_option maxRecDepth 100000
theorem nl67_0 (ls:List V) (n i:Int) (Nx Ex Rt:List V→List Blk→Prop):wC Try.prog sp67 21 zB (zO []) noLs 0 (zP Try.f67 0).2 1000 (List.zip [6,7,8] [.list false ls,.int .i64 n,.int .i64 i]) (List.zip [] []) (endK ends67_0 Nx Ex Rt)=(
 ∀(x0:Bool),
  x0=decide (i<n)→
   (x0=true→
     0≤i∧
      i<↑(List.length ls)∧
       ∃n9003 n9004 l5,
        getV ls i=V.agg [.int .i64 n9003,.int .i64 n9004,.list false l5]∧
         ∀(x6:Bool),x6=!plainB n9003 n9004 l5→(x6=true→Rt [V.gd true (V.bool false)] [])∧(x6=false→∀(x10:Bool),x10=!srcB n9003 n9004→(x10=true→Rt [V.gd true (V.bool false)] [])∧(x10=false→∀(x14:Int),x14=IntKind.wrap .i64 (i+1)→Nx [V.list false ls,V.int .i64 n,V.int .i64 x14] [])))∧
    (x0=false→Ex [] [])):=by kernel_rfl
theorem n67 (t n:Int) (ls:List V) (r:V):wC Try.prog sp67 21 zB (zO []) ls67 0 (zC Try.f67) 1000 (zL [.agg [.int .i64 t,.int .i64 n,.list false ls]] 0) [] (finK Try.prog none Try.f67.results.toList r)=(
 List.length ls≤9223372036854775807→∀(x1:Int),x1=↑(List.length ls)→x1=↑(List.length ls)∧Int.ofNat 0=0∧List.length ls≤9223372036854775807∧(∀(u3:V),List.Mem u3 ls→T28 u3)∧(AllS (listP ls) (↑(List.length ls)) 1 0→r=V.bool true)∧(¬AllS (listP ls) (↑(List.length ls)) 1 0→r=V.bool false)):=by kernel_rfl
theorem nl66_0 (t n:Int) (ls:List V) (m i:Int) (Nx Ex Rt:List V→List Blk→Prop):wC Try.prog sp66 77 zB (zN Try.f66) ls47i 0 (zP Try.f66 0).2 1001 (List.zip [1,12,13,14] [.ptr 1000 0 [],.list false ls,.int .i64 m,.int .i64 i]) (List.zip [1000] [⟨none,false,.agg [.int .i64 t,.int .i64 n,.list false ls]⟩]) (endK ends66_0 Nx Ex Rt)=(
 ∀(x0:Bool),
  x0=decide (i<m)→
   (x0=true→
     0≤i∧
      i<↑(List.length ls)∧
       ∃n9003 n9004 l5,
        getV ls i=V.agg [.int .i64 n9003,.int .i64 n9004,.list false l5]∧
         ∀(x6:Bool),
          x6=!plainB n9003 n9004 l5→
           (x6=true→Rt [V.gd true (V.bool false)] [])∧
            (x6=false→
             (IntKind.i64=IntKind.i64∧(Int.ofNat 2=0→False))∧
              (True→
               ∀(x12:Int),
                x12=Int.tmod i 2→
                 ∀(x14:Bool),
                  x14=(x12==1)→
                   (x14=true→
                     ∀(x17:Bool),
                      x17=(n9003==5)→
                       (x17=true→
                         ∀(x20:Bool),
                          x20=decide (n9004>0)→
                           (x20=true→∀(x23:Int),x23=IntKind.wrap .i64 (i+1)→Nx [V.ptr 1000 0 [],V.list false ls,V.int .i64 m,V.int .i64 x23] [{ arr:=none,fz:=false,t:=V.agg [.int .i64 t,.int .i64 n,.list false ls] }])∧
                            (x20=false→
                             (IntKind.i64=IntKind.i64∧(Int.ofNat 2=0→False))∧
                              (True→
                               ∀(x28:Int),
                                x28=Int.tmod i 2→
                                 ∀(x30:Bool),
                                  x30=(x28==1)→
                                   (x30=true→Rt [V.gd true (V.bool false)] [])∧
                                    (x30=false→
                                     ∀(x34:Bool),
                                      x34=(n9003 != 1)→
                                       (x34=true→
                                         ∀(x37:Bool),
                                          x37=(n9003 != 2)→
                                           (x37=true→Rt [V.gd true (V.bool false)] [])∧
                                            (x37=false→
                                             Int.ofNat 0=0∧
                                              0≤i∧
                                               i<↑(List.length ls)∧
                                                List.length ls≤9223372036854775807∧
                                                 (∀(u41:V),List.Mem u41 ls→T28 u41)∧
                                                  tagV (getV ls i)=n9003∧
                                                   numV (getV ls i)=n9004∧
                                                    (AllS (diffP ls i) i 2 0→∀(x44:Int),x44=IntKind.wrap .i64 (i+1)→Nx [V.ptr 1000 0 [],V.list false ls,V.int .i64 m,V.int .i64 x44] [{ arr:=none,fz:=false,t:=V.agg [.int .i64 t,.int .i64 n,.list false ls] }])∧
                                                     (¬AllS (diffP ls i) i 2 0→Rt [V.gd true (V.bool false)] [])))∧
                                        (x34=false→
                                         (false=true→Rt [V.gd true (V.bool false)] [])∧
                                          (false=false→
                                           Int.ofNat 0=0∧
                                            0≤i∧
                                             i<↑(List.length ls)∧
                                              List.length ls≤9223372036854775807∧
                                               (∀(u50:V),List.Mem u50 ls→T28 u50)∧
                                                tagV (getV ls i)=n9003∧
                                                 numV (getV ls i)=n9004∧
                                                  (AllS (diffP ls i) i 2 0→∀(x53:Int),x53=IntKind.wrap .i64 (i+1)→Nx [V.ptr 1000 0 [],V.list false ls,V.int .i64 m,V.int .i64 x53] [{ arr:=none,fz:=false,t:=V.agg [.int .i64 t,.int .i64 n,.list false ls] }])∧
                                                   (¬AllS (diffP ls i) i 2 0→Rt [V.gd true (V.bool false)] [])))))))∧
                        (x17=false→
                         (IntKind.i64=IntKind.i64∧(Int.ofNat 2=0→False))∧
                          (True→
                           ∀(x59:Int),
                            x59=Int.tmod i 2→
                             ∀(x61:Bool),
                              x61=(x59==1)→
                               (x61=true→Rt [V.gd true (V.bool false)] [])∧
                                (x61=false→
                                 ∀(x65:Bool),
                                  x65=(n9003 != 1)→
                                   (x65=true→
                                     ∀(x68:Bool),
                                      x68=(n9003 != 2)→
                                       (x68=true→Rt [V.gd true (V.bool false)] [])∧
                                        (x68=false→
                                         Int.ofNat 0=0∧
                                          0≤i∧
                                           i<↑(List.length ls)∧
                                            List.length ls≤9223372036854775807∧
                                             (∀(u72:V),List.Mem u72 ls→T28 u72)∧
                                              tagV (getV ls i)=n9003∧
                                               numV (getV ls i)=n9004∧
                                                (AllS (diffP ls i) i 2 0→∀(x75:Int),x75=IntKind.wrap .i64 (i+1)→Nx [V.ptr 1000 0 [],V.list false ls,V.int .i64 m,V.int .i64 x75] [{ arr:=none,fz:=false,t:=V.agg [.int .i64 t,.int .i64 n,.list false ls] }])∧
                                                 (¬AllS (diffP ls i) i 2 0→Rt [V.gd true (V.bool false)] [])))∧
                                    (x65=false→
                                     (false=true→Rt [V.gd true (V.bool false)] [])∧
                                      (false=false→
                                       Int.ofNat 0=0∧
                                        0≤i∧
                                         i<↑(List.length ls)∧
                                          List.length ls≤9223372036854775807∧
                                           (∀(u81:V),List.Mem u81 ls→T28 u81)∧
                                            tagV (getV ls i)=n9003∧
                                             numV (getV ls i)=n9004∧
                                              (AllS (diffP ls i) i 2 0→∀(x84:Int),x84=IntKind.wrap .i64 (i+1)→Nx [V.ptr 1000 0 [],V.list false ls,V.int .i64 m,V.int .i64 x84] [{ arr:=none,fz:=false,t:=V.agg [.int .i64 t,.int .i64 n,.list false ls] }])∧
                                               (¬AllS (diffP ls i) i 2 0→Rt [V.gd true (V.bool false)] [])))))))∧
                    (x14=false→
                     (IntKind.i64=IntKind.i64∧(Int.ofNat 2=0→False))∧
                      (True→
                       ∀(x90:Int),
                        x90=Int.tmod i 2→
                         ∀(x92:Bool),
                          x92=(x90==1)→
                           (x92=true→Rt [V.gd true (V.bool false)] [])∧
                            (x92=false→
                             ∀(x96:Bool),
                              x96=(n9003 != 1)→
                               (x96=true→
                                 ∀(x99:Bool),
                                  x99=(n9003 != 2)→
                                   (x99=true→Rt [V.gd true (V.bool false)] [])∧
                                    (x99=false→
                                     Int.ofNat 0=0∧
                                      0≤i∧
                                       i<↑(List.length ls)∧
                                        List.length ls≤9223372036854775807∧
                                         (∀(u103:V),List.Mem u103 ls→T28 u103)∧
                                          tagV (getV ls i)=n9003∧
                                           numV (getV ls i)=n9004∧
                                            (AllS (diffP ls i) i 2 0→∀(x106:Int),x106=IntKind.wrap .i64 (i+1)→Nx [V.ptr 1000 0 [],V.list false ls,V.int .i64 m,V.int .i64 x106] [{ arr:=none,fz:=false,t:=V.agg [.int .i64 t,.int .i64 n,.list false ls] }])∧
                                             (¬AllS (diffP ls i) i 2 0→Rt [V.gd true (V.bool false)] [])))∧
                                (x96=false→
                                 (false=true→Rt [V.gd true (V.bool false)] [])∧
                                  (false=false→
                                   Int.ofNat 0=0∧
                                    0≤i∧
                                     i<↑(List.length ls)∧
                                      List.length ls≤9223372036854775807∧
                                       (∀(u112:V),List.Mem u112 ls→T28 u112)∧
                                        tagV (getV ls i)=n9003∧
                                         numV (getV ls i)=n9004∧
                                          (AllS (diffP ls i) i 2 0→∀(x115:Int),x115=IntKind.wrap .i64 (i+1)→Nx [V.ptr 1000 0 [],V.list false ls,V.int .i64 m,V.int .i64 x115] [{ arr:=none,fz:=false,t:=V.agg [.int .i64 t,.int .i64 n,.list false ls] }])∧
                                           (¬AllS (diffP ls i) i 2 0→Rt [V.gd true (V.bool false)] [])))))))))∧
    (x0=false→Ex [] [])):=by kernel_rfl
theorem nl66_1 (t n:Int) (ls:List V) (i k p q:Int) (lq:List V) (l2:List V) (m j:Int) (Nx Ex Rt:List V→List Blk→Prop):wC Try.prog sp66 77 zB (zN Try.f66) noLs 3 (lin (zP Try.f66 0) 0).2 1006 (List.zip [1,3,4,5,12,13,14] [.ptr 1000 0 [],.int .i64 i,.ptr 1005 0 [],.int .i64 k,.list false l2,.int .i64 m,.int .i64 j]) (List.zip [1000,1005] [⟨none,false,.agg [.int .i64 t,.int .i64 n,.list false ls]⟩,⟨none,false,.agg [.int .i64 p,.int .i64 q,.list false lq]⟩]) (endK ends66_1 Nx Ex Rt)=(
 ∀(x0:Bool),
  x0=decide (k<i)→
   (x0=true→
     0≤k∧
      k<↑(List.length ls)∧
       ∃n9003 n9004 l5,
        getV ls k=V.agg [.int .i64 n9003,.int .i64 n9004,.list false l5]∧
         ∀(x6:Bool),
          x6=(n9003==p)→
           (x6=true→
             0≤k∧
              k<↑(List.length ls)∧
               ∃n6 n22 l11,
                getV ls k=V.agg [.int .i64 n6,.int .i64 n22,.list false l11]∧
                 ∀(x12:Bool),
                  x12=(n22==q)→
                   (x12=true→Rt [V.gd true (V.bool false)] [])∧
                    (x12=false→
                     ∀(x16:Int),
                      x16=IntKind.wrap .i64 (k+2)→
                       Nx [V.ptr 1000 0 [],V.int .i64 i,V.ptr 1005 0 [],V.int .i64 x16,V.list false l2,V.int .i64 m,V.int .i64 j] [{ arr:=none,fz:=false,t:=V.agg [.int .i64 t,.int .i64 n,.list false ls] },{ arr:=none,fz:=false,t:=V.agg [.int .i64 p,.int .i64 q,.list false lq] }]))∧
            (x6=false→
             ∀(x19:Int),
              x19=IntKind.wrap .i64 (k+2)→
               Nx [V.ptr 1000 0 [],V.int .i64 i,V.ptr 1005 0 [],V.int .i64 x19,V.list false l2,V.int .i64 m,V.int .i64 j] [{ arr:=none,fz:=false,t:=V.agg [.int .i64 t,.int .i64 n,.list false ls] },{ arr:=none,fz:=false,t:=V.agg [.int .i64 p,.int .i64 q,.list false lq] }]))∧
    (x0=false→Ex [V.ptr 1000 0 [],V.list false l2,V.int .i64 m,V.int .i64 j] [{ arr:=none,fz:=false,t:=V.agg [.int .i64 t,.int .i64 n,.list false ls] }])):=by kernel_rfl
theorem n66 (t n:Int) (ls:List V) (r:V):wC Try.prog sp66 77 zB (zN Try.f66) ls66 0 (zC Try.f66) 1000 (zL [.agg [.int .i64 t,.int .i64 n,.list false ls]] 0) [] (finK Try.prog none Try.f66.results.toList r)=(
 List.length ls≤9223372036854775807→
  ∀(x1:Int),
   x1=↑(List.length ls)→
    (IntKind.i64=IntKind.i64∧(Int.ofNat 2=0→False))∧
     (True→
      ∀(x5:Int),
       x5=Int.tmod x1 2→
        ∀(x7:Bool),
         x7=(x5 != 0)→
          (x7=true→r=V.bool false)∧
           (x7=false→List.length ls≤9223372036854775807→∀(x12:Int),x12=↑(List.length ls)→ls=ls∧x12=↑(List.length ls)∧Int.ofNat 0=0∧(∀(u14:V),List.Mem u14 ls→T28 u14)∧List.length ls≤9223372036854775807∧(AllS (okO ls) (↑(List.length ls)) 1 0→r=V.bool true)∧(¬AllS (okO ls) (↑(List.length ls)) 1 0→r=V.bool false)))):=by kernel_rfl
theorem n43g (c t n:Int) (ls:List V) (r:V):wC Try.prog sp43g 89 zB (zO []) noLs 0 (zC Try.f45) 1000 (zL [.int .u8 c,.agg [.int .i64 t,.int .i64 n,.list false ls]] 0) [] (finK Try.prog none Try.f45.results.toList r)=(
 ∀(x0:Bool),
  x0=(c==83)→
   (x0=true→
     ∀(x3:Bool),
      x3=(t != 7)→
       (x3=true→r=V.bool false)∧
        (x3=false→
         ∀(x7:Bool),
          x7=(n != 0)→
           (x7=true→r=V.bool false)∧
            (x7=false→
             List.length ls≤9223372036854775807→
              ∀(x12:Int),
               x12=↑(List.length ls)→∀(x14:Bool),x14=decide (x12>40)→(x14=true→r=V.bool false)∧(x14=false→∀(x18:Bool),x18=(c==80)→(x18=true→(∀(u21:V),List.Mem u21 ls→T28 u21)∧r=V.bool (dec (inO ls)))∧(x18=false→(∀(u24:V),List.Mem u24 ls→T28 u24)∧r=V.bool (dec (AllS (listP ls) (↑(List.length ls)) 1 0)))))))∧
    (x0=false→
     ∀(x27:Bool),
      x27=(c==80)→
       (x27=true→
         ∀(x30:Bool),
          x30=(t != 7)→
           (x30=true→r=V.bool false)∧
            (x30=false→
             ∀(x34:Bool),
              x34=(n != 0)→
               (x34=true→r=V.bool false)∧
                (x34=false→
                 List.length ls≤9223372036854775807→
                  ∀(x39:Int),
                   x39=↑(List.length ls)→∀(x41:Bool),x41=decide (x39>40)→(x41=true→r=V.bool false)∧(x41=false→∀(x45:Bool),x45=(c==80)→(x45=true→(∀(u48:V),List.Mem u48 ls→T28 u48)∧r=V.bool (dec (inO ls)))∧(x45=false→(∀(u51:V),List.Mem u51 ls→T28 u51)∧r=V.bool (dec (AllS (listP ls) (↑(List.length ls)) 1 0)))))))∧
        (x27=false→
         ∀(x54:Bool),
          x54=!plainB t n ls→
           (x54=true→r=V.bool false)∧
            (x54=false→
             ∀(x58:Bool),
              x58=(c==117)→
               (x58=true→∀(x61:Bool),x61=(t==0)→r=V.bool x61)∧
                (x58=false→
                 ∀(x64:Bool),
                  x64=(c==97)→
                   (x64=true→∀(x67:Bool),x67=(t==2)→(x67=true→∀(x70:Bool),x70=decide (n>0)→r=V.bool x70)∧(x67=false→r=V.bool false))∧
                    (x64=false→
                     ∀(x74:Bool),
                      x74=(c==115)→
                       (x74=true→r=V.bool (srcB t n))∧
                        (x74=false→
                         ∀(x78:Bool),
                          x78=(c==100)→
                           (x78=true→r=V.bool (regB t n))∧
                            (x78=false→
                             ∀(x82:Bool),
                              x82=(c==120)→
                               (x82=true→∀(x85:Bool),x85=(t==3)→(x85=true→r=V.bool (regB t n))∧(x85=false→r=V.bool false))∧
                                (x82=false→
                                 ∀(x90:Bool),
                                  x90=(c==121)→
                                   (x90=true→∀(x93:Bool),x93=(t==4)→(x93=true→r=V.bool (regB t n))∧(x93=false→r=V.bool false))∧
                                    (x90=false→∀(x98:Bool),x98=(c==108)→(x98=true→∀(x101:Bool),x101=(t==5)→(x101=true→∀(x104:Bool),x104=decide (n>0)→r=V.bool x104)∧(x101=false→r=V.bool false))∧(x98=false→∀(x108:Bool),x108=(t==5)→r=V.bool x108))))))))))):=by kernel_rfl
theorem nl33g (sg:List UInt8) (xs:List V) (n i:Int) (Nx Ex Rt:List V→List Blk→Prop):wC Try.prog sp33g 40 zB (zN Try.f33) noLs 0 (zP Try.f33 0).2 1000 (List.zip [3,26,27,28] [.str sg,.list false xs,.int .i64 n,.int .i64 i]) (List.zip [] []) (endK ends33g Nx Ex Rt)=(
 ∀(x0:Bool),
  x0=decide (i<n)→
   (x0=true→
     0≤i∧
      i<↑(List.length xs)∧
       ∃n9003 n9004 l5,
        getV xs i=V.agg [.int .i64 n9003,.int .i64 n9004,.list false l5]∧
         0≤i∧i<↑(List.length sg)∧∀(x6:Int),x6=↑(UInt8.toNat (List.getD sg (Int.toNat i) 0))→(∀(u8:V),List.Mem u8 l5→T28 u8)∧∀(x10:Bool),x10=!letO x6 n9003 n9004 l5→(x10=true→Rt [V.gd true (V.bool false)] [])∧(x10=false→∀(x14:Int),x14=IntKind.wrap .i64 (i+1)→Nx [V.str sg,V.list false xs,V.int .i64 n,V.int .i64 x14] []))∧
    (x0=false→Ex [] [])):=by kernel_rfl
theorem n33g (op:Int) (xs:List V) (r:V):wC Try.prog sp33g 40 zB (zN Try.f33) ls33g 0 (zC Try.f33) 1000 (zL [.agg [.int .i64 op,.list false xs]] 0) [] (finK Try.prog none Try.f33.results.toList r)=(
 ∀(x0:Bool),
  x0=decide (op<1)→
   (x0=true→r=V.bool false)∧
    (x0=false→
     ∀(x4:Bool),
      x4=decide (op>51)→
       (x4=true→r=V.bool false)∧
        (x4=false→
         List.length xs≤9223372036854775807→
          ∀(x9:Int),
           x9=↑(List.length xs)→
            List.length (sigS op)≤9223372036854775807→
             ∀(x12:Int),
              x12=↑(List.length (sigS op))→
               ∀(x14:Bool),
                x14=(x9 != x12)→
                 (x14=true→r=V.bool false)∧
                  (x14=false→
                   List.length xs≤9223372036854775807→
                    ∀(x19:Int),x19=↑(List.length xs)→x19=↑(List.length xs)∧List.length xs≤9223372036854775807∧List.length xs=List.length (sigS op)∧(∀(u21:V),List.Mem u21 xs→T28 u21)∧Int.ofNat 0=0∧(AllS (okG (sigS op) xs) (↑(List.length xs)) 1 0→r=V.bool true)∧(¬AllS (okG (sigS op) xs) (↑(List.length xs)) 1 0→r=V.bool false))))):=by kernel_rfl
theorem n56g (op:Int) (xs:List V) (r:V):wC Try.prog sp56g 31 zB (zO []) noLs 0 (zC Try.f56) 1000 (zL [.agg [.int .i64 op,.list false xs]] 0) [] (finK Try.prog none Try.f56.results.toList r)=(
 (∀(u0:V),List.Mem u0 xs→T28 u0)∧
  ∀(x2:Bool),
   x2=!fitsG op xs→
    (x2=true→r=V.bool false)∧
     (x2=false→
      ∀(x6:Bool),
       x6=(op==2)→
        (x6=true→r=V.bool true)∧
         (x6=false→
          ∀(x10:Bool),
           x10=(op==6)→
            (x10=true→r=V.bool true)∧
             (x10=false→
              ∀(x14:Bool),
               x14=(op==9)→
                (x14=true→r=V.bool true)∧
                 (x14=false→
                  ∀(x18:Bool),
                   x18=(op==10)→
                    (x18=true→r=V.bool true)∧
                     (x18=false→
                      ∀(x22:Bool),
                       x22=(op==17)→
                        (x22=true→r=V.bool true)∧
                         (x22=false→
                          ∀(x26:Bool),
                           x26=(op==18)→
                            (x26=true→r=V.bool true)∧
                             (x26=false→
                              ∀(x30:Bool),
                               x30=(op==43)→
                                (x30=true→r=V.bool true)∧
                                 (x30=false→
                                  ∀(x34:Bool),
                                   x34=(op==44)→
                                    (x34=true→r=V.bool true)∧
                                     (x34=false→
                                      ∀(x38:Bool),
                                       x38=(op==48)→
                                        (x38=true→r=V.bool true)∧
                                         (x38=false→
                                          ∀(x42:Bool),
                                           x42=(op==49)→
                                            (x42=true→r=V.bool true)∧
                                             (x42=false→
                                              ∀(x46:Bool),
                                               x46=(op==50)→
                                                (x46=true→r=V.bool true)∧
                                                 (x46=false→
                                                  ∀(x50:Bool),
                                                   x50=(op==51)→
                                                    (x50=true→r=V.bool true)∧
                                                     (x50=false→
                                                      ∀(x54:Bool),
                                                       x54=(op==35)→
                                                        (x54=true→Int.ofNat 0≤0∧(0:Int)<↑(List.length xs)∧∃n71 n73 l59,getV xs 0=V.agg [.int .i64 n71,.int .i64 n73,.list false l59]∧∀(x60:Bool),x60=(n73==0)→r=V.bool x60)∧
                                                         (x54=false→
                                                          ∀(x63:Bool),
                                                           x63=(op==36)→
                                                            (x63=true→Int.ofNat 0≤0∧(0:Int)<↑(List.length xs)∧∃n82 n83 l68,getV xs 0=V.agg [.int .i64 n82,.int .i64 n83,.list false l68]∧∀(x69:Bool),x69=(n83==0)→r=V.bool x69)∧
                                                             (x63=false→
                                                              ∀(x72:Bool),
                                                               x72=(op==37)→(x72=true→Int.ofNat 0≤0∧(0:Int)<↑(List.length xs)∧∃n91 n93 l77,getV xs 0=V.agg [.int .i64 n91,.int .i64 n93,.list false l77]∧∀(x78:Bool),x78=(n93==0)→r=V.bool x78)∧(x72=false→r=V.bool false))))))))))))))))):=by kernel_rfl
end GoL
