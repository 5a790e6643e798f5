/-
  TopStory: its run, in parts. (Printed by runlaw.py.)
-/
import Derived.Test.YtenckbcdfdmckaaGreatDoorTopD
set_option linter.unusedSimpArgs false
set_option linter.unusedVariables false
namespace Go.Top
open Go Go.Eng
set_option maxRecDepth 100000
def I (n : Nat) : CT := .int .i64 (.ofNat n)
def J (n : Nat) : CV := .int .i64 (.ofNat n)
def U (n : Nat) : CV := .int .u32 (.ofNat n)
def W (n : Nat) : CT := .int .u32 (.ofNat n)
def sl0 : List (List CT) := [[I 2, I 0, .str 0 0, .str 0 0, I 0], [I 0, I 0, .str 0 0, .str 0 0, I 0], [I 0, I 0, .str 0 0, .str 0 0, I 0], [I 0, I 0, .str 0 0, .str 0 0, I 0], [I 0, I 0, .str 0 0, .str 0 0, I 0], [I 0, I 0, .str 0 0, .str 0 0, I 0], [I 0, I 0, .str 0 0, .str 0 0, I 0], [I 0, I 0, .str 0 0, .str 0 0, I 0]]
def sl1 : List (List CT) := [[I 0, I 0, W 0, W 0, W 0, W 0], [I 0, I 0, W 0, W 0, W 0, W 0], [I 0, I 0, W 0, W 0, W 0, W 0], [I 0, I 0, W 0, W 0, W 0, W 0]]
def sv2 : CV := .str 256 0x25d000100000002
def sl3 : List (List CT) := [[I 14, I 1, W 0x25d0003, W 0x94e300bf, W 0x9c601820, W 0x3c221020], [I 0, I 0, W 0, W 0, W 0, W 0], [I 0, I 0, W 0, W 0, W 0, W 0], [I 0, I 0, W 0, W 0, W 0, W 0], [I 0, I 0, W 0, W 0, W 0, W 0], [I 0, I 0, W 0, W 0, W 0, W 0], [I 0, I 0, W 0, W 0, W 0, W 0], [I 0, I 0, W 0, W 0, W 0, W 0]]
def sv4 : CV := .str 176 0x2010223c2018609cbf00e39403005d02010000000e00
def sv5 : CV := .str 256 0x2010223c2018609cbf00e39403005d02010000000e00b0000100000003
def sl6 : List (List CT) := [[I 15, I 1, W 0x2a736f15, W 0xbcd5f5b9, W 0xd4a6cef9, W 0xbd451ebd]]
def sv7 : CV := .str 22 0xbd1e45bdf9cea6d4b9f5d5bc156f732a010000000f00
def sv8 : CV := .str 29 0xbd1e45bdf9cea6d4b9f5d5bc156f732a010000000f0000000001010001
def sv9 : CV := .str 256 0xbd1e45bdf9cea6d4b9f5d5bc156f732a010000000f00000000010100011d000100000004
def sv10 : CV := .str 256 0x1f20000100000005
def sl11 : List (List CT) := [[I 16, I 1, W 0x9770367c, W 0x25659d11, W 0xe1c08a78, W 0x9021ca78], [I 17, I 1, W 0x1f200006, W 0xa8e0017f, W 0x1c003080, W 0xb4042860], [I 0, I 0, W 0, W 0, W 0, W 0]]
def sv12 : CV := .str 66 0x602804b48030001c7f01e0a80600201f01000000110078ca2190788ac0e1119d65257c367097010000001000
def sv13 : CV := .str 82 0x602804b48030001c7f01e0a80600201f01000000110078ca2190788ac0e1119d65257c367097010000001000070000000200000001000000
def sv14 : CV := .str 256 0x602804b48030001c7f01e0a80600201f01000000110078ca2190788ac0e1119d65257c36709701000000100007000000020000000100000052000100000006
def sl15 : List (List CT) := [[I 18, I 1, W 0xc18b8899, W 0xcfba61f9, W 0x751fce33, W 0xde7fedc4]]
def sv16 : CV := .str 22 0xc4ed7fde33ce1f75f961bacf99888bc1010000001200
def sv17 : CV := .str 256 0xe0bea2635ce2f7c0c229d1ef96e7a59ec4ed7fde33ce1f75f961bacf99888bc1010000001200010700000001000000ab
def ss18 : CT := .str 256 0xb7023c000b023c005f013c00b3003c003c0007000000ac
def ss19 : CT := .str 256 0xe0bea2635ce2f7c0c229d1ef96e7a59ec4ed7fde33ce1f75f961bacf99888bc1010000001200010700000001000000ab
def ss20 : CT := .str 256 0x25d000100000002
def ss21 : CT := .str 256 0x2010223c2018609cbf00e39403005d02010000000e00b0000100000003
def ss22 : CT := .str 256 0xbd1e45bdf9cea6d4b9f5d5bc156f732a010000000f00000000010100011d000100000004
def ss23 : CT := .str 256 0x1f20000100000005
def ss24 : CT := .str 256 0x602804b48030001c7f01e0a80600201f01000000110078ca2190788ac0e1119d65257c36709701000000100007000000020000000100000052000100000006
def sl25 : List (List CT) := [[ss18], [.str 256 0], [ss19], [.str 256 0], [.str 256 0], [.str 256 0], [.str 256 0], [ss18], [.str 256 0], [ss19], [.str 256 0], [.str 256 0], [.str 256 0], [.str 256 0], [ss20], [ss21], [ss22], [ss23], [ss24], [.str 256 0], [.str 256 0], [.str 256 0], [.str 256 0], [.str 256 0], [.str 256 0], [.str 256 0], [.str 256 0], [.str 256 0], [.str 256 0], [.str 256 0], [.str 256 0], [.str 256 0], [.str 256 0], [.str 256 0], [.str 256 0], [.str 256 0], [.str 256 0], [.str 256 0], [.str 256 0], [.str 256 0], [.str 256 0], [.str 256 0], [.str 256 0], [.str 256 0], [.str 256 0], [.str 256 0], [.str 256 0], [.str 256 0], [.str 256 0], [.str 256 0], [.str 256 0], [.str 256 0], [.str 256 0], [.str 256 0], [.str 256 0], [.str 256 0], [.str 256 0], [.str 256 0], [.str 256 0], [.str 256 0], [.str 256 0], [.str 256 0], [.str 256 0], [.str 256 0], [.str 256 0], [.str 256 0], [.str 256 0], [.str 256 0], [.str 256 0], [.str 256 0], [.str 256 0], [.str 256 0], [.str 256 0], [.str 256 0], [ss18], [.str 256 0], [ss19], [.str 256 0], [.str 256 0], [.str 256 0], [.str 256 0], [ss18], [.str 256 0], [ss19], [.str 256 0], [.str 256 0], [.str 256 0], [.str 256 0]]
def sl26 : List (List CT) := [[I 2, I 0, .str 0 0, .str 0 0, I 0], [I 1, I 0, .str 1 97, .str 0 0, I 0], [I 0, I 0, .str 0 0, .str 0 0, I 0], [I 0, I 0, .str 0 0, .str 0 0, I 0], [I 0, I 0, .str 0 0, .str 0 0, I 0], [I 0, I 0, .str 0 0, .str 0 0, I 0], [I 0, I 0, .str 0 0, .str 0 0, I 0], [I 0, I 0, .str 0 0, .str 0 0, I 0]]
def sl27 : List (List CT) := [[I 2, I 0, .str 0 0, .str 0 0, I 0], [I 1, I 0, .str 1 97, .str 2 26984, I 0], [I 0, I 0, .str 0 0, .str 0 0, I 0], [I 0, I 0, .str 0 0, .str 0 0, I 0], [I 0, I 0, .str 0 0, .str 0 0, I 0], [I 0, I 0, .str 0 0, .str 0 0, I 0], [I 0, I 0, .str 0 0, .str 0 0, I 0], [I 0, I 0, .str 0 0, .str 0 0, I 0]]
def sv28 : CV := .str 70 0x602804b48030001c7f01e0a80600201f01000000110078ca2190788ac0e1119d65257c367097010000001000
def sv29 : CV := .str 256 0x696820000200000001
def sl30 : List (List CT) := [[I 19, I 2, W 0x6820006c, W 0x9fe01a2c, W 0xfc0338e9, W 0x5444c8c0], [I 0, I 0, W 0, W 0, W 0, W 0], [I 0, I 0, W 0, W 0, W 0, W 0], [I 0, I 0, W 0, W 0, W 0, W 0]]
def sv31 : CV := .str 88 0xc0c84454e93803fc2c1ae09f6c002068020000001300
def sv32 : CV := .str 94 0xc0c84454e93803fc2c1ae09f6c002068020000001300020061010001
def sv33 : CV := .str 256 0xc0c84454e93803fc2c1ae09f6c0020680200000013000200610100015e000200000002
def sl34 : List (List CT) := [[I 14, I 1, W 0x25d0003, W 0x94e300bf, W 0x9c601820, W 0x3c221020], [I 20, I 2, W 0x5b161c4d, W 0xc49aa523, W 0x56357f75, W 0x4635cb55], [I 0, I 0, W 0, W 0, W 0, W 0], [I 0, I 0, W 0, W 0, W 0, W 0], [I 0, I 0, W 0, W 0, W 0, W 0], [I 0, I 0, W 0, W 0, W 0, W 0], [I 0, I 0, W 0, W 0, W 0, W 0], [I 0, I 0, W 0, W 0, W 0, W 0]]
def sv35 : CV := .str 176 0x55cb3546757f355623a59ac44d1c165b0200000014002010223c2018609cbf00e39403005d02010000000e00
def sv36 : CV := .str 256 0x55cb3546757f355623a59ac44d1c165b0200000014002010223c2018609cbf00e39403005d02010000000e00b0000200000003
def sl37 : List (List CT) := [[I 21, I 2, W 0xe6c57b30, W 0xa99089eb, W 0xeb814e10, W 0xf7238ee0]]
def sv38 : CV := .str 22 0xe08e23f7104e81ebeb8990a9307bc5e6020000001500
def sv39 : CV := .str 29 0xe08e23f7104e81ebeb8990a9307bc5e602000000150000000001010001
def sv40 : CV := .str 256 0xe08e23f7104e81ebeb8990a9307bc5e6020000001500000000010100011d000200000004
def sv41 : CV := .str 32 0x1e00000000000007e1
def sv42 : CV := .str 256 0x1e00000000000007e120000200000005
def sl43 : List (List CT) := [[I 22, I 2, W 0x24fffd77, W 0x9a56d25, W 0xec520d4e, W 0x19c28e07], [I 23, I 2, W 0xff20000e, W 0x8ce00370, W 0x76006dc7, W 0x96094640], [I 0, I 0, W 0, W 0, W 0, W 0]]
def sv44 : CV := .str 66 0x40460996c76d00767003e08c0e0020ff020000001700078ec2194e0d52ec256da50977fdff24020000001600
def sv45 : CV := .str 82 0x40460996c76d00767003e08c0e0020ff020000001700078ec2194e0d52ec256da50977fdff24020000001600070000000200000002000000
def sv46 : CV := .str 256 0x40460996c76d00767003e08c0e0020ff020000001700078ec2194e0d52ec256da50977fdff2402000000160007000000020000000200000052000200000006
def sl47 : List (List CT) := [[I 24, I 2, W 0xa0b4ea1a, W 0xfcd9e230, W 0xc147f66d, W 0xa0816dc0]]
def sv48 : CV := .str 22 0xc06d81a06df647c130e2d9fc1aeab4a0020000001800
def sv49 : CV := .str 256 0x54037a01e2c5cc522683ad34b15a3194c06d81a06df647c130e2d9fc1aeab4a0020000001800020700000002000000ab
def ss50 : CT := .str 256 0x54037a01e2c5cc522683ad34b15a3194c06d81a06df647c130e2d9fc1aeab4a0020000001800020700000002000000ab
def ss51 : CT := .str 256 0x696820000200000001
def ss52 : CT := .str 256 0xc0c84454e93803fc2c1ae09f6c0020680200000013000200610100015e000200000002
def ss53 : CT := .str 256 0x55cb3546757f355623a59ac44d1c165b0200000014002010223c2018609cbf00e39403005d02010000000e00b0000200000003
def ss54 : CT := .str 256 0xe08e23f7104e81ebeb8990a9307bc5e6020000001500000000010100011d000200000004
def ss55 : CT := .str 256 0x1e00000000000007e120000200000005
def ss56 : CT := .str 256 0x40460996c76d00767003e08c0e0020ff020000001700078ec2194e0d52ec256da50977fdff2402000000160007000000020000000200000052000200000006
def sl57 : List (List CT) := [[ss18], [.str 256 0], [ss19], [ss50], [.str 256 0], [.str 256 0], [.str 256 0], [ss18], [.str 256 0], [ss19], [ss50], [.str 256 0], [.str 256 0], [.str 256 0], [ss20], [ss21], [ss22], [ss23], [ss24], [ss51], [ss52], [ss53], [ss54], [ss55], [ss56], [.str 256 0], [.str 256 0], [.str 256 0], [.str 256 0], [.str 256 0], [.str 256 0], [.str 256 0], [.str 256 0], [.str 256 0], [.str 256 0], [.str 256 0], [.str 256 0], [.str 256 0], [.str 256 0], [.str 256 0], [.str 256 0], [.str 256 0], [.str 256 0], [.str 256 0], [.str 256 0], [.str 256 0], [.str 256 0], [.str 256 0], [.str 256 0], [.str 256 0], [.str 256 0], [.str 256 0], [.str 256 0], [.str 256 0], [.str 256 0], [.str 256 0], [.str 256 0], [.str 256 0], [.str 256 0], [.str 256 0], [.str 256 0], [.str 256 0], [.str 256 0], [.str 256 0], [.str 256 0], [.str 256 0], [.str 256 0], [.str 256 0], [.str 256 0], [.str 256 0], [.str 256 0], [.str 256 0], [.str 256 0], [.str 256 0], [ss18], [.str 256 0], [ss19], [ss50], [.str 256 0], [.str 256 0], [.str 256 0], [ss18], [.str 256 0], [ss19], [ss50], [.str 256 0], [.str 256 0], [.str 256 0]]
def sv58 : CV := .str 246 0xe0bea2635ce2f7c0c229d1ef96e7a59ec4ed7fde33ce1f75f961bacf99888bc1010000001200
def sv59 : CV := .str 224 0xe0bea2635ce2f7c0c229d1ef96e7a59e
def sv60 : CV := .str 246 0x54037a01e2c5cc522683ad34b15a3194c06d81a06df647c130e2d9fc1aeab4a0020000001800
def sv61 : CV := .str 224 0x54037a01e2c5cc522683ad34b15a3194
def sv62 : CV := .str 70 0x40460996c76d00767003e08c0e0020ff020000001700078ec2194e0d52ec256da50977fdff24020000001600
def sv63 : CV := .str 256 0x610100015e000200000002
def sl64 : List (List CT) := [[I 14, I 1, W 0x25d0003, W 0x94e300bf, W 0x9c601820, W 0x3c221020], [I 19, I 2, W 0x1bf0104, W 0x6da03efe, W 0xa848c100, W 0xf2257ac0], [I 0, I 0, W 0, W 0, W 0, W 0], [I 0, I 0, W 0, W 0, W 0, W 0], [I 0, I 0, W 0, W 0, W 0, W 0], [I 0, I 0, W 0, W 0, W 0, W 0], [I 0, I 0, W 0, W 0, W 0, W 0], [I 0, I 0, W 0, W 0, W 0, W 0]]
def sv65 : CV := .str 176 0xc07a25f200c148a8fe3ea06d0401bf010200000013002010223c2018609cbf00e39403005d02010000000e00
def sv66 : CV := .str 256 0xc07a25f200c148a8fe3ea06d0401bf010200000013002010223c2018609cbf00e39403005d02010000000e00b0000200000003
def sl67 : List (List CT) := [[I 20, I 2, W 0x344beae2, W 0x4c3f5f2d, W 0x7d038297, W 0xff9baf9d]]
def sv68 : CV := .str 22 0x9daf9bff9782037d2d5f3f4ce2ea4b34020000001400
def sv69 : CV := .str 29 0x9daf9bff9782037d2d5f3f4ce2ea4b3402000000140000000001010001
def sv70 : CV := .str 256 0x9daf9bff9782037d2d5f3f4ce2ea4b34020000001400000000010100011d000200000004
def sv71 : CV := .str 32 0x1e00000000000003e1
def sv72 : CV := .str 256 0x1e00000000000003e120000200000005
def sl73 : List (List CT) := [[I 21, I 2, W 0x5c992b02, W 0x5051d24f, W 0x58dde3a1, W 0x596fc3c9], [I 22, I 2, W 0xff20000a, W 0x8ce00278, W 0x76004f43, W 0x9606bb40], [I 0, I 0, W 0, W 0, W 0, W 0]]
def sv74 : CV := .str 66 0x40bb0696434f00767802e08c0a0020ff020000001600c9c36f59a1e3dd584fd25150022b995c020000001500
def sv75 : CV := .str 82 0x40bb0696434f00767802e08c0a0020ff020000001600c9c36f59a1e3dd584fd25150022b995c020000001500070000000200000002000000
def sv76 : CV := .str 256 0x40bb0696434f00767802e08c0a0020ff020000001600c9c36f59a1e3dd584fd25150022b995c02000000150007000000020000000200000052000200000006
def sl77 : List (List CT) := [[I 23, I 2, W 0x3db26be0, W 0xe2814046, W 0x7ee19c2d, W 0xd66f4502]]
def sv78 : CV := .str 22 0x2456fd62d9ce17e464081e2e06bb23d020000001700
def sv79 : CV := .str 256 0xbeb7a84dd558d4f5fc92ef4527888e6f02456fd62d9ce17e464081e2e06bb23d020000001700020700000002000000ab
def ss80 : CT := .str 256 0xbeb7a84dd558d4f5fc92ef4527888e6f02456fd62d9ce17e464081e2e06bb23d020000001700020700000002000000ab
def ss81 : CT := .str 256 0x610100015e000200000002
def ss82 : CT := .str 256 0xc07a25f200c148a8fe3ea06d0401bf010200000013002010223c2018609cbf00e39403005d02010000000e00b0000200000003
def ss83 : CT := .str 256 0x9daf9bff9782037d2d5f3f4ce2ea4b34020000001400000000010100011d000200000004
def ss84 : CT := .str 256 0x1e00000000000003e120000200000005
def ss85 : CT := .str 256 0x40bb0696434f00767802e08c0a0020ff020000001600c9c36f59a1e3dd584fd25150022b995c02000000150007000000020000000200000052000200000006
def sl86 : List (List CT) := [[ss18], [.str 256 0], [ss19], [ss80], [.str 256 0], [.str 256 0], [.str 256 0], [ss18], [.str 256 0], [ss19], [ss80], [.str 256 0], [.str 256 0], [.str 256 0], [ss20], [ss21], [ss22], [ss23], [ss24], [ss81], [ss82], [ss83], [ss84], [ss85], [.str 256 0], [.str 256 0], [.str 256 0], [.str 256 0], [.str 256 0], [.str 256 0], [.str 256 0], [.str 256 0], [.str 256 0], [.str 256 0], [.str 256 0], [.str 256 0], [.str 256 0], [.str 256 0], [.str 256 0], [.str 256 0], [.str 256 0], [.str 256 0], [.str 256 0], [.str 256 0], [.str 256 0], [.str 256 0], [.str 256 0], [.str 256 0], [.str 256 0], [.str 256 0], [.str 256 0], [.str 256 0], [.str 256 0], [.str 256 0], [.str 256 0], [.str 256 0], [.str 256 0], [.str 256 0], [.str 256 0], [.str 256 0], [.str 256 0], [.str 256 0], [.str 256 0], [.str 256 0], [.str 256 0], [.str 256 0], [.str 256 0], [.str 256 0], [.str 256 0], [.str 256 0], [.str 256 0], [.str 256 0], [.str 256 0], [.str 256 0], [ss18], [.str 256 0], [ss19], [ss80], [.str 256 0], [.str 256 0], [.str 256 0], [ss18], [.str 256 0], [ss19], [ss80], [.str 256 0], [.str 256 0], [.str 256 0]]
def sl87 : List (List CT) := [[I 2, I 0, .str 0 0, .str 0 0, I 0], [I 1, I 0, .str 1 97, .str 3 0x656e6f, I 0], [I 0, I 0, .str 0 0, .str 0 0, I 0], [I 0, I 0, .str 0 0, .str 0 0, I 0], [I 0, I 0, .str 0 0, .str 0 0, I 0], [I 0, I 0, .str 0 0, .str 0 0, I 0], [I 0, I 0, .str 0 0, .str 0 0, I 0], [I 0, I 0, .str 0 0, .str 0 0, I 0]]
def sv88 : CV := .str 70 0x40bb0696434f00767802e08c0a0020ff020000001600c9c36f59a1e3dd584fd25150022b995c020000001500
def sv89 : CV := .str 256 0x656e6f20000300000001
def sl90 : List (List CT) := [[I 24, I 3, W 0x6f206572, W 0x58f891a1, W 0x1f05ebee, W 0xf47e6120], [I 0, I 0, W 0, W 0, W 0, W 0], [I 0, I 0, W 0, W 0, W 0, W 0], [I 0, I 0, W 0, W 0, W 0, W 0]]
def sv91 : CV := .str 88 0x20617ef4eeeb051fa191f8587265206f030000001800
def sv92 : CV := .str 94 0x20617ef4eeeb051fa191f8587265206f030000001800030061010001
def sv93 : CV := .str 256 0x20617ef4eeeb051fa191f8587265206f0300000018000300610100015e000300000002
def sl94 : List (List CT) := [[I 14, I 1, W 0x25d0003, W 0x94e300bf, W 0x9c601820, W 0x3c221020], [I 25, I 3, W 0xddfd44a3, W 0x954c4831, W 0x2d63fba2, W 0x36ae36fe], [I 0, I 0, W 0, W 0, W 0, W 0], [I 0, I 0, W 0, W 0, W 0, W 0], [I 0, I 0, W 0, W 0, W 0, W 0], [I 0, I 0, W 0, W 0, W 0, W 0], [I 0, I 0, W 0, W 0, W 0, W 0], [I 0, I 0, W 0, W 0, W 0, W 0]]
def sv95 : CV := .str 176 0xfe36ae36a2fb632d31484c95a344fddd0300000019002010223c2018609cbf00e39403005d02010000000e00
def sv96 : CV := .str 256 0xfe36ae36a2fb632d31484c95a344fddd0300000019002010223c2018609cbf00e39403005d02010000000e00b0000300000003
def sl97 : List (List CT) := [[I 26, I 3, W 0x2052e71, W 0x4ce92f71, W 0x6740cc8a, W 0xfe832c02]]
def sv98 : CV := .str 22 0x22c83fe8acc4067712fe94c712e0502030000001a00
def sv99 : CV := .str 29 0x22c83fe8acc4067712fe94c712e0502030000001a0000000001010001
def sv100 : CV := .str 256 0x22c83fe8acc4067712fe94c712e0502030000001a00000000010100011d000300000004
def sv101 : CV := .str 32 0x1e00000000000003e0000000000000fc01
def sv102 : CV := .str 256 0x1e00000000000003e0000000000000fc0120000300000005
def sl103 : List (List CT) := [[I 27, I 3, W 0x8d74b3ba, W 0x480e78ea, W 0x19d27883, W 0x16b453d7], [I 28, I 3, W 0xff200107, W 0x90e03fb9, W 0xe807d82e, W 0xa8a76dd4], [I 0, I 0, W 0, W 0, W 0, W 0]]
def sv104 : CV := .str 66 0xd46da7a82ed807e8b93fe090070120ff030000001c00d753b4168378d219ea780e48bab3748d030000001b00
def sv105 : CV := .str 82 0xd46da7a82ed807e8b93fe090070120ff030000001c00d753b4168378d219ea780e48bab3748d030000001b00070000000200000003000000
def sv106 : CV := .str 256 0xd46da7a82ed807e8b93fe090070120ff030000001c00d753b4168378d219ea780e48bab3748d030000001b0007000000020000000300000052000300000006
def ss107 : CT := .str 256 0x656e6f20000300000001
def ss108 : CT := .str 256 0x20617ef4eeeb051fa191f8587265206f0300000018000300610100015e000300000002
def ss109 : CT := .str 256 0xfe36ae36a2fb632d31484c95a344fddd0300000019002010223c2018609cbf00e39403005d02010000000e00b0000300000003
def ss110 : CT := .str 256 0x22c83fe8acc4067712fe94c712e0502030000001a00000000010100011d000300000004
def ss111 : CT := .str 256 0x1e00000000000003e0000000000000fc0120000300000005
def ss112 : CT := .str 256 0xd46da7a82ed807e8b93fe090070120ff030000001c00d753b4168378d219ea780e48bab3748d030000001b0007000000020000000300000052000300000006
def sl113 : List (List CT) := [[I 24, ss107], [I 25, ss108], [I 26, ss109], [I 27, ss110], [I 28, ss111], [I 29, ss112]]
def sl114 : List (List CT) := [[ss18], [.str 256 0], [ss19], [ss80], [.str 256 0], [.str 256 0], [.str 256 0], [ss18], [.str 256 0], [ss19], [ss80], [.str 256 0], [.str 256 0], [.str 256 0], [ss20], [ss21], [ss22], [ss23], [ss24], [ss81], [ss82], [ss83], [ss84], [ss85], [ss107], [ss108], [ss109], [ss110], [.str 256 0], [.str 256 0], [.str 256 0], [.str 256 0], [.str 256 0], [.str 256 0], [.str 256 0], [.str 256 0], [.str 256 0], [.str 256 0], [.str 256 0], [.str 256 0], [.str 256 0], [.str 256 0], [.str 256 0], [.str 256 0], [.str 256 0], [.str 256 0], [.str 256 0], [.str 256 0], [.str 256 0], [.str 256 0], [.str 256 0], [.str 256 0], [.str 256 0], [.str 256 0], [.str 256 0], [.str 256 0], [.str 256 0], [.str 256 0], [.str 256 0], [.str 256 0], [.str 256 0], [.str 256 0], [.str 256 0], [.str 256 0], [.str 256 0], [.str 256 0], [.str 256 0], [.str 256 0], [.str 256 0], [.str 256 0], [.str 256 0], [.str 256 0], [.str 256 0], [.str 256 0], [ss18], [.str 256 0], [ss19], [ss80], [.str 256 0], [.str 256 0], [.str 256 0], [ss18], [.str 256 0], [ss19], [ss80], [.str 256 0], [.str 256 0], [.str 256 0]]
def sv115 : CV := .str 246 0xbeb7a84dd558d4f5fc92ef4527888e6f02456fd62d9ce17e464081e2e06bb23d020000001700
def sv116 : CV := .str 224 0xbeb7a84dd558d4f5fc92ef4527888e6f
def sl117 : List (List CT) := [[I 2, I 0, .str 0 0, .str 0 0, I 0], [I 1, I 0, .str 1 97, .str 3 0x6f7774, I 0], [I 0, I 0, .str 0 0, .str 0 0, I 0], [I 0, I 0, .str 0 0, .str 0 0, I 0], [I 0, I 0, .str 0 0, .str 0 0, I 0], [I 0, I 0, .str 0 0, .str 0 0, I 0], [I 0, I 0, .str 0 0, .str 0 0, I 0], [I 0, I 0, .str 0 0, .str 0 0, I 0]]
def sv118 : CV := .str 256 0x6f777420000300000001
def sl119 : List (List CT) := [[I 24, I 3, W 0x74206f7b, W 0x93faffcf, W 0x7f527a97, W 0x1adf99e0], [I 0, I 0, W 0, W 0, W 0, W 0], [I 0, I 0, W 0, W 0, W 0, W 0], [I 0, I 0, W 0, W 0, W 0, W 0]]
def sv120 : CV := .str 88 0xe099df1a977a527fcffffa937b6f2074030000001800
def sv121 : CV := .str 94 0xe099df1a977a527fcffffa937b6f2074030000001800030061010001
def sv122 : CV := .str 256 0xe099df1a977a527fcffffa937b6f20740300000018000300610100015e000300000002
def sl123 : List (List CT) := [[I 14, I 1, W 0x25d0003, W 0x94e300bf, W 0x9c601820, W 0x3c221020], [I 25, I 3, W 0xa49d8453, W 0xb37ac002, W 0xc5f927ed, W 0xd873f6f7], [I 0, I 0, W 0, W 0, W 0, W 0], [I 0, I 0, W 0, W 0, W 0, W 0], [I 0, I 0, W 0, W 0, W 0, W 0], [I 0, I 0, W 0, W 0, W 0, W 0], [I 0, I 0, W 0, W 0, W 0, W 0], [I 0, I 0, W 0, W 0, W 0, W 0]]
def sv124 : CV := .str 176 0xf7f673d8ed27f9c502c07ab353849da40300000019002010223c2018609cbf00e39403005d02010000000e00
def sv125 : CV := .str 256 0xf7f673d8ed27f9c502c07ab353849da40300000019002010223c2018609cbf00e39403005d02010000000e00b0000300000003
def sl126 : List (List CT) := [[I 26, I 3, W 0x20cad29a, W 0xd40c6397, W 0x588f2ac4, W 0x3e885ff8]]
def sv127 : CV := .str 22 0xf85f883ec42a8f5897630cd49ad2ca20030000001a00
def sv128 : CV := .str 29 0xf85f883ec42a8f5897630cd49ad2ca20030000001a0000000001010001
def sv129 : CV := .str 256 0xf85f883ec42a8f5897630cd49ad2ca20030000001a00000000010100011d000300000004
def sl130 : List (List CT) := [[I 27, I 3, W 0xcddef91, W 0x29c6754d, W 0xaada0d0c, W 0xa704a6f8], [I 28, I 3, W 0xff200107, W 0x90e03fb9, W 0xe807d82e, W 0xa8a76dd4], [I 0, I 0, W 0, W 0, W 0, W 0]]
def sv131 : CV := .str 66 0xd46da7a82ed807e8b93fe090070120ff030000001c00f8a604a70c0ddaaa4d75c62991efdd0c030000001b00
def sv132 : CV := .str 82 0xd46da7a82ed807e8b93fe090070120ff030000001c00f8a604a70c0ddaaa4d75c62991efdd0c030000001b00070000000200000003000000
def sv133 : CV := .str 256 0xd46da7a82ed807e8b93fe090070120ff030000001c00f8a604a70c0ddaaa4d75c62991efdd0c030000001b0007000000020000000300000052000300000006
def sl134 : List (List CT) := [[I 29, I 3, W 0x3ac30eb7, W 0xccb97d9e, W 0xfade72b0, W 0xe06fc056]]
def sv135 : CV := .str 22 0x56c06fe0b072defa9e7db9ccb70ec33a030000001d00
def sv136 : CV := .str 256 0xf4689d57cd5f9fd3b77f5a2c95cfbf7c56c06fe0b072defa9e7db9ccb70ec33a030000001d00030700000003000000ab
def ss137 : CT := .str 256 0xf4689d57cd5f9fd3b77f5a2c95cfbf7c56c06fe0b072defa9e7db9ccb70ec33a030000001d00030700000003000000ab
def ss138 : CT := .str 256 0x6f777420000300000001
def ss139 : CT := .str 256 0xe099df1a977a527fcffffa937b6f20740300000018000300610100015e000300000002
def ss140 : CT := .str 256 0xf7f673d8ed27f9c502c07ab353849da40300000019002010223c2018609cbf00e39403005d02010000000e00b0000300000003
def ss141 : CT := .str 256 0xf85f883ec42a8f5897630cd49ad2ca20030000001a00000000010100011d000300000004
def ss142 : CT := .str 256 0xd46da7a82ed807e8b93fe090070120ff030000001c00f8a604a70c0ddaaa4d75c62991efdd0c030000001b0007000000020000000300000052000300000006
def sl143 : List (List CT) := [[ss18], [.str 256 0], [ss19], [ss80], [ss137], [.str 256 0], [.str 256 0], [ss18], [.str 256 0], [ss19], [ss80], [ss137], [.str 256 0], [.str 256 0], [ss20], [ss21], [ss22], [ss23], [ss24], [ss81], [ss82], [ss83], [ss84], [ss85], [ss138], [ss139], [ss140], [ss141], [ss111], [ss142], [.str 256 0], [.str 256 0], [.str 256 0], [.str 256 0], [.str 256 0], [.str 256 0], [.str 256 0], [.str 256 0], [.str 256 0], [.str 256 0], [.str 256 0], [.str 256 0], [.str 256 0], [.str 256 0], [.str 256 0], [.str 256 0], [.str 256 0], [.str 256 0], [.str 256 0], [.str 256 0], [.str 256 0], [.str 256 0], [.str 256 0], [.str 256 0], [.str 256 0], [.str 256 0], [.str 256 0], [.str 256 0], [.str 256 0], [.str 256 0], [.str 256 0], [.str 256 0], [.str 256 0], [.str 256 0], [.str 256 0], [.str 256 0], [.str 256 0], [.str 256 0], [.str 256 0], [.str 256 0], [.str 256 0], [.str 256 0], [.str 256 0], [.str 256 0], [ss18], [.str 256 0], [ss19], [ss80], [ss137], [.str 256 0], [.str 256 0], [ss18], [.str 256 0], [ss19], [ss80], [ss137], [.str 256 0], [.str 256 0]]
def sv144 : CV := .str 246 0xf4689d57cd5f9fd3b77f5a2c95cfbf7c56c06fe0b072defa9e7db9ccb70ec33a030000001d00
def sv145 : CV := .str 224 0xf4689d57cd5f9fd3b77f5a2c95cfbf7c
def sv146 : CV := .str 70 0xd46da7a82ed807e8b93fe090070120ff030000001c00f8a604a70c0ddaaa4d75c62991efdd0c030000001b00
/- palimp/node.May, 3639 operations -/
def sc1_0 : List MS := [
  ⟨[.t (.seq 5 sl0)], .bool true⟩,
  ⟨[.t (.seq 5 sl27)], .bool true⟩,
  ⟨[.t (.seq 5 sl26)], .bool true⟩,
  ⟨[.t (.seq 5 sl87)], .bool true⟩,
  ⟨[.t (.seq 5 sl117)], .bool true⟩]
theorem sc1_0_ok : chkS (E.orc 40) 109 sc1_0 = true := by kernel_rfl
/- palimp/span.May, 389 operations -/
def sc1_1 : List MS := [
  ⟨[.t (.seq 2 [])], .bool true⟩,
  ⟨[.t (.seq 2 [[I 14, I 74]])], .bool true⟩,
  ⟨[.t (.seq 2 [[I 14, I 19]])], .bool true⟩,
  ⟨[.t (.nilS)], .bool true⟩,
  ⟨[.t (.seq 2 [[I 19, I 74]])], .bool true⟩,
  ⟨[.t (.seq 2 [[I 14, I 15], [I 19, I 25]])], .bool true⟩,
  ⟨[.t (.seq 2 [[I 15, I 19]])], .bool true⟩,
  ⟨[.t (.seq 2 [[I 14, I 15], [I 19, I 24]])], .bool true⟩,
  ⟨[.t (.seq 2 [[I 24, I 74]])], .bool true⟩,
  ⟨[.t (.seq 2 [[I 14, I 15], [I 24, I 30]])], .bool true⟩,
  ⟨[.t (.seq 2 [[I 19, I 24]])], .bool true⟩]
theorem sc1_1_ok : chkS (E.orc 40) 112 sc1_1 = true := by kernel_rfl
/- palimp/ptr.Put, 7609 operations -/
def sc1_2 : List MS := [
  ⟨[.t (.seq 6 sl1)], .str 88 0⟩,
  ⟨[.t (.seq 6 sl3)], sv4⟩,
  ⟨[.t (.seq 6 sl6)], sv7⟩,
  ⟨[.t (.seq 6 sl11)], sv12⟩,
  ⟨[.t (.seq 6 sl15)], sv16⟩,
  ⟨[.t (.seq 6 sl30)], sv31⟩,
  ⟨[.t (.seq 6 sl34)], sv35⟩,
  ⟨[.t (.seq 6 sl37)], sv38⟩,
  ⟨[.t (.seq 6 sl43)], sv44⟩,
  ⟨[.t (.seq 6 sl47)], sv48⟩,
  ⟨[.t (.seq 6 sl64)], sv65⟩,
  ⟨[.t (.seq 6 sl67)], sv68⟩,
  ⟨[.t (.seq 6 sl73)], sv74⟩,
  ⟨[.t (.seq 6 sl77)], sv78⟩,
  ⟨[.t (.seq 6 sl90)], sv91⟩,
  ⟨[.t (.seq 6 sl94)], sv95⟩,
  ⟨[.t (.seq 6 sl97)], sv98⟩,
  ⟨[.t (.seq 6 sl103)], sv104⟩,
  ⟨[.t (.seq 6 sl119)], sv120⟩,
  ⟨[.t (.seq 6 sl123)], sv124⟩,
  ⟨[.t (.seq 6 sl126)], sv127⟩,
  ⟨[.t (.seq 6 sl130)], sv131⟩,
  ⟨[.t (.seq 6 sl134)], sv135⟩]
theorem sc1_2_ok : chkS (E.orc 40) 130 sc1_2 = true := by kernel_rfl
/- palimp/rec.Node, 5540 operations -/
def sc1_3 : List MS := [
  ⟨[.agg [J 2, J 0, .str 0 0, .str 0 0, J 0], J 0, .t (.seq 6 sl1)], .str 93 2⟩,
  ⟨[.agg [J 1, J 0, .str 1 97, .str 2 26984, J 0], J 2, .t (.seq 6 sl30)], sv32⟩,
  ⟨[.agg [J 1, J 0, .str 1 97, .str 0 0, J 0], J 2, .t (.seq 6 sl30)], sv32⟩,
  ⟨[.agg [J 1, J 0, .str 1 97, .str 0 0, J 0], J 0, .t (.seq 6 sl1)], .str 94 0x61010001⟩,
  ⟨[.agg [J 1, J 0, .str 1 97, .str 3 0x656e6f, J 0], J 3, .t (.seq 6 sl90)], sv92⟩,
  ⟨[.agg [J 1, J 0, .str 1 97, .str 3 0x6f7774, J 0], J 3, .t (.seq 6 sl119)], sv121⟩,
  ⟨[.agg [J 1, J 0, .str 1 97, .str 0 0, J 0], J 3, .t (.seq 6 sl119)], sv121⟩]
theorem sc1_3_ok : chkS (E.orc 40) 223 sc1_3 = true := by kernel_rfl
/- palimp/block.Put, 1809 operations -/
def sc1_4 : List MS := [
  ⟨[.agg [J 2, J 1, .str 93 2]], sv2⟩,
  ⟨[.agg [J 3, J 1, sv4]], sv5⟩,
  ⟨[.agg [J 4, J 1, sv8]], sv9⟩,
  ⟨[.agg [J 5, J 1, .str 32 31]], sv10⟩,
  ⟨[.agg [J 6, J 1, sv13]], sv14⟩,
  ⟨[.agg [J 1, J 2, .str 32 26984]], sv29⟩,
  ⟨[.agg [J 2, J 2, sv32]], sv33⟩,
  ⟨[.agg [J 3, J 2, sv35]], sv36⟩,
  ⟨[.agg [J 4, J 2, sv39]], sv40⟩,
  ⟨[.agg [J 5, J 2, sv41]], sv42⟩,
  ⟨[.agg [J 6, J 2, sv45]], sv46⟩,
  ⟨[.agg [J 2, J 2, .str 94 0x61010001]], sv63⟩,
  ⟨[.agg [J 3, J 2, sv65]], sv66⟩,
  ⟨[.agg [J 4, J 2, sv69]], sv70⟩,
  ⟨[.agg [J 5, J 2, sv71]], sv72⟩,
  ⟨[.agg [J 6, J 2, sv75]], sv76⟩,
  ⟨[.agg [J 1, J 3, .str 32 0x656e6f]], sv89⟩,
  ⟨[.agg [J 2, J 3, sv92]], sv93⟩,
  ⟨[.agg [J 3, J 3, sv95]], sv96⟩,
  ⟨[.agg [J 4, J 3, sv99]], sv100⟩,
  ⟨[.agg [J 5, J 3, sv101]], sv102⟩,
  ⟨[.agg [J 6, J 3, sv105]], sv106⟩,
  ⟨[.agg [J 1, J 3, .str 32 0x6f7774]], sv118⟩,
  ⟨[.agg [J 2, J 3, sv121]], sv122⟩,
  ⟨[.agg [J 3, J 3, sv124]], sv125⟩,
  ⟨[.agg [J 4, J 3, sv128]], sv129⟩,
  ⟨[.agg [J 6, J 3, sv132]], sv133⟩]
theorem sc1_4_ok : chkS (E.orc 40) 78 sc1_4 = true := by kernel_rfl
/- palimp/smap.Put, 18592 operations -/
def sc1_5 : List MS := [
  ⟨[J 60, .t (.seq 2 [[I 14, I 19]])], .str 8 31⟩,
  ⟨[J 60, .t (.nilS)], .str 8 0⟩,
  ⟨[J 60, .t (.seq 2 [])], .str 8 0⟩,
  ⟨[J 60, .t (.seq 2 [[I 14, I 15], [I 19, I 25]])], .str 8 2017⟩,
  ⟨[J 60, .t (.seq 2 [[I 15, I 19]])], .str 8 30⟩]
theorem sc1_5_ok : chkS (E.orc 40) 127 sc1_5 = true := by kernel_rfl
/- palimp/smap.Put, 17193 operations -/
def sc1_6 : List MS := [
  ⟨[J 60, .t (.seq 2 [[I 14, I 15], [I 19, I 24]])], .str 8 993⟩,
  ⟨[J 60, .t (.seq 2 [[I 14, I 15], [I 24, I 30]])], .str 8 64513⟩,
  ⟨[J 60, .t (.seq 2 [[I 19, I 24]])], .str 8 992⟩]
theorem sc1_6_ok : chkS (E.orc 40) 127 sc1_6 = true := by kernel_rfl
/- palimp/uber.Put, 1108 operations -/
def sc1_7 : List MS := [
  ⟨[.agg [J 1, J 7, J 1, J 18, J 1, U 0xc18b8899, U 0xcfba61f9, U 0x751fce33, U 0xde7fedc4]], sv17⟩,
  ⟨[.agg [J 2, J 7, J 2, J 24, J 2, U 0xa0b4ea1a, U 0xfcd9e230, U 0xc147f66d, U 0xa0816dc0]], sv49⟩,
  ⟨[.agg [J 2, J 7, J 2, J 23, J 2, U 0x3db26be0, U 0xe2814046, U 0x7ee19c2d, U 0xd66f4502]], sv79⟩,
  ⟨[.agg [J 3, J 7, J 3, J 29, J 3, U 0x3ac30eb7, U 0xccb97d9e, U 0xfade72b0, U 0xe06fc056]], sv136⟩]
theorem sc1_7_ok : chkS (E.orc 40) 134 sc1_7 = true := by kernel_rfl
/- palimp/data.Parts, 804 operations -/
def sc1_8 : List MS := [
  ⟨[.str 0 0], J 0⟩,
  ⟨[.str 2 26984], J 1⟩,
  ⟨[.str 3 0x656e6f], J 1⟩,
  ⟨[.str 3 0x6f7774], J 1⟩]
theorem sc1_8_ok : chkS (E.orc 40) 139 sc1_8 = true := by kernel_rfl
/- palimp/uber.Take, 2799 operations -/
def sc1_9 : List MS := [
  ⟨[.str 256 0], .tup [.agg [J 0, J 0, J 0, J 0, J 0, U 0, U 0, U 0, U 0], .bool false]⟩,
  ⟨[sv17], .tup [.agg [J 1, J 7, J 1, J 18, J 1, U 0xc18b8899, U 0xcfba61f9, U 0x751fce33, U 0xde7fedc4], .bool true]⟩,
  ⟨[sv49], .tup [.agg [J 2, J 7, J 2, J 24, J 2, U 0xa0b4ea1a, U 0xfcd9e230, U 0xc147f66d, U 0xa0816dc0], .bool true]⟩,
  ⟨[sv79], .tup [.agg [J 2, J 7, J 2, J 23, J 2, U 0x3db26be0, U 0xe2814046, U 0x7ee19c2d, U 0xd66f4502], .bool true]⟩,
  ⟨[sv136], .tup [.agg [J 3, J 7, J 3, J 29, J 3, U 0x3ac30eb7, U 0xccb97d9e, U 0xfade72b0, U 0xe06fc056], .bool true]⟩]
theorem sc1_9_ok : chkS (E.orc 40) 207 sc1_9 = true := by kernel_rfl
/- palimp/span.Less, 16473 operations -/
def sc1_10 : List MP := [
  ⟨[.t (.seq 2 []), .t (.seq 2 [[I 14, I 74]])], .t (.nilS), []⟩,
  ⟨[.t (.seq 2 [[I 14, I 74]]), .t (.seq 2 [])], .tok 0 2 0 1, [.row 2 1 [[I 14, I 74]] false]⟩,
  ⟨[.t (.seq 2 []), .t (.seq 2 [[I 14, I 19]])], .t (.nilS), []⟩,
  ⟨[.t (.nilS), .t (.nilS)], .t (.nilS), []⟩,
  ⟨[.t (.seq 2 [[I 14, I 19]]), .t (.seq 2 [[I 14, I 74]])], .t (.nilS), []⟩,
  ⟨[.t (.nilS), .t (.seq 2 [[I 14, I 74]])], .t (.nilS), []⟩,
  ⟨[.t (.seq 2 [[I 14, I 74]]), .t (.seq 2 [[I 14, I 19]])], .tok 0 2 0 1, [.row 2 1 [[I 19, I 74]] false]⟩,
  ⟨[.t (.seq 2 [[I 19, I 74]]), .t (.seq 2 [])], .tok 0 2 0 1, [.row 2 1 [[I 19, I 74]] false]⟩,
  ⟨[.t (.seq 2 [[I 14, I 19]]), .t (.seq 2 [[I 14, I 15], [I 19, I 25]])], .tok 0 2 0 1, [.row 2 1 [[I 15, I 19]] false]⟩,
  ⟨[.t (.seq 2 []), .t (.seq 2 [[I 14, I 15], [I 19, I 25]])], .t (.nilS), []⟩,
  ⟨[.t (.nilS), .t (.seq 2 [[I 15, I 19]])], .t (.nilS), []⟩,
  ⟨[.t (.seq 2 [[I 14, I 15], [I 19, I 25]]), .t (.seq 2 [[I 14, I 74]])], .t (.nilS), []⟩,
  ⟨[.t (.seq 2 [[I 15, I 19]]), .t (.seq 2 [[I 14, I 74]])], .t (.nilS), []⟩,
  ⟨[.t (.seq 2 [[I 14, I 74]]), .t (.seq 2 [[I 14, I 15], [I 19, I 25]])], .tok 0 2 0 2, [.row 2 2 [[I 15, I 19], [I 25, I 74]] false]⟩,
  ⟨[.t (.seq 2 [[I 15, I 19], [I 25, I 74]]), .t (.seq 2 [[I 15, I 19]])], .tok 0 2 0 1, [.row 2 1 [[I 25, I 74]] false]⟩,
  ⟨[.t (.seq 2 [[I 25, I 74]]), .t (.nilS)], .tok 0 2 0 1, [.row 2 1 [[I 25, I 74]] false]⟩,
  ⟨[.t (.seq 2 [[I 25, I 74]]), .t (.seq 2 [])], .tok 0 2 0 1, [.row 2 1 [[I 25, I 74]] false]⟩,
  ⟨[.t (.seq 2 [[I 14, I 19]]), .t (.seq 2 [[I 14, I 15], [I 19, I 24]])], .tok 0 2 0 1, [.row 2 1 [[I 15, I 19]] false]⟩,
  ⟨[.t (.seq 2 []), .t (.seq 2 [[I 14, I 15], [I 19, I 24]])], .t (.nilS), []⟩,
  ⟨[.t (.seq 2 [[I 14, I 15], [I 19, I 24]]), .t (.seq 2 [[I 14, I 74]])], .t (.nilS), []⟩,
  ⟨[.t (.seq 2 [[I 14, I 74]]), .t (.seq 2 [[I 14, I 15], [I 19, I 24]])], .tok 0 2 0 2, [.row 2 2 [[I 15, I 19], [I 24, I 74]] false]⟩,
  ⟨[.t (.seq 2 [[I 15, I 19], [I 24, I 74]]), .t (.seq 2 [[I 15, I 19]])], .tok 0 2 0 1, [.row 2 1 [[I 24, I 74]] false]⟩,
  ⟨[.t (.seq 2 [[I 24, I 74]]), .t (.nilS)], .tok 0 2 0 1, [.row 2 1 [[I 24, I 74]] false]⟩,
  ⟨[.t (.seq 2 [[I 24, I 74]]), .t (.seq 2 [])], .tok 0 2 0 1, [.row 2 1 [[I 24, I 74]] false]⟩,
  ⟨[.t (.seq 2 [[I 14, I 15], [I 19, I 24]]), .t (.seq 2 [[I 14, I 15], [I 24, I 30]])], .tok 0 2 0 1, [.row 2 1 [[I 19, I 24]] false]⟩,
  ⟨[.t (.seq 2 [[I 15, I 19]]), .t (.seq 2 [[I 14, I 15], [I 24, I 30]])], .tok 0 2 0 1, [.row 2 1 [[I 15, I 19]] false]⟩,
  ⟨[.t (.seq 2 [[I 15, I 19]]), .t (.seq 2 [[I 19, I 24]])], .tok 0 2 0 1, [.row 2 1 [[I 15, I 19]] false]⟩,
  ⟨[.t (.seq 2 [[I 14, I 15], [I 24, I 30]]), .t (.seq 2 [[I 14, I 74]])], .t (.nilS), []⟩,
  ⟨[.t (.seq 2 [[I 19, I 24]]), .t (.seq 2 [[I 14, I 74]])], .t (.nilS), []⟩,
  ⟨[.t (.seq 2 [[I 14, I 74]]), .t (.seq 2 [[I 14, I 15], [I 24, I 30]])], .tok 0 2 0 2, [.row 2 2 [[I 15, I 24], [I 30, I 74]] false]⟩,
  ⟨[.t (.seq 2 [[I 15, I 24], [I 30, I 74]]), .t (.seq 2 [[I 19, I 24]])], .tok 0 2 0 2, [.row 2 2 [[I 15, I 19], [I 30, I 74]] false]⟩,
  ⟨[.t (.seq 2 [[I 15, I 19], [I 30, I 74]]), .t (.seq 2 [[I 15, I 19]])], .tok 0 2 0 1, [.row 2 1 [[I 30, I 74]] false]⟩,
  ⟨[.t (.seq 2 [[I 30, I 74]]), .t (.seq 2 [])], .tok 0 2 0 1, [.row 2 1 [[I 30, I 74]] false]⟩]
theorem sc1_10_ok : chkP (E.orc 40) 124 sc1_10 = true := by kernel_rfl
/- palimp/span.Both, 3814 operations -/
def sc1_11 : List MP := [
  ⟨[.t (.seq 2 []), .t (.seq 2 [])], .t (.nilS), []⟩,
  ⟨[.t (.nilS), .t (.seq 2 [])], .t (.nilS), []⟩,
  ⟨[.t (.seq 2 [[I 14, I 19]]), .t (.nilS)], .t (.nilS), []⟩,
  ⟨[.t (.seq 2 [[I 14, I 19]]), .t (.seq 2 [])], .t (.nilS), []⟩,
  ⟨[.t (.seq 2 [[I 14, I 15], [I 19, I 25]]), .t (.seq 2 [[I 15, I 19]])], .t (.nilS), []⟩,
  ⟨[.t (.seq 2 [[I 14, I 25]]), .t (.nilS)], .t (.nilS), []⟩,
  ⟨[.t (.seq 2 [[I 14, I 15], [I 19, I 24]]), .t (.seq 2 [[I 15, I 19]])], .t (.nilS), []⟩,
  ⟨[.t (.seq 2 [[I 14, I 24]]), .t (.nilS)], .t (.nilS), []⟩,
  ⟨[.t (.seq 2 [[I 14, I 24]]), .t (.seq 2 [])], .t (.nilS), []⟩,
  ⟨[.t (.seq 2 [[I 14, I 15], [I 24, I 30]]), .t (.seq 2 [[I 19, I 24]])], .t (.nilS), []⟩,
  ⟨[.t (.seq 2 [[I 14, I 15], [I 19, I 30]]), .t (.seq 2 [[I 15, I 19]])], .t (.nilS), []⟩]
theorem sc1_11_ok : chkP (E.orc 40) 174 sc1_11 = true := by kernel_rfl
/- palimp/span.Add, 2907 operations -/
def sc1_12 : List MP := [
  ⟨[.t (.seq 2 []), .t (.seq 2 [])], .t (.nilS), []⟩,
  ⟨[.t (.seq 2 [[I 14, I 19]]), .t (.nilS)], .tok 0 2 0 1, [.row 2 1 [[I 14, I 19]] false]⟩,
  ⟨[.t (.seq 2 [[I 14, I 19]]), .t (.seq 2 [])], .tok 0 2 0 1, [.row 2 1 [[I 14, I 19]] false]⟩,
  ⟨[.t (.seq 2 [[I 14, I 15], [I 19, I 25]]), .t (.seq 2 [[I 15, I 19]])], .tok 0 2 0 1, [.row 2 1 [[I 14, I 25]] false]⟩,
  ⟨[.t (.seq 2 [[I 14, I 15], [I 19, I 24]]), .t (.seq 2 [[I 15, I 19]])], .tok 0 2 0 1, [.row 2 1 [[I 14, I 24]] false]⟩,
  ⟨[.t (.seq 2 [[I 14, I 15], [I 24, I 30]]), .t (.seq 2 [[I 19, I 24]])], .tok 0 2 0 2, [.row 2 2 [[I 14, I 15], [I 19, I 30]] false]⟩]
theorem sc1_12_ok : chkP (E.orc 40) 175 sc1_12 = true := by kernel_rfl
/- palimp/ptr.Take, 13420 operations -/
def sc1_13 : List MP := [
  ⟨[sv28, J 3], .tup [.tok 0 6 0 3, .str 4 0, .bool true], [.row 6 3 sl11 false]⟩,
  ⟨[sv7, J 1], .tup [.tok 0 6 0 1, .str 0 0, .bool true], [.row 6 1 sl6 false]⟩,
  ⟨[sv4, J 8], .tup [.tok 0 6 0 8, .str 0 0, .bool true], [.row 6 8 sl3 false]⟩,
  ⟨[.str 88 0, J 4], .tup [.tok 0 6 0 4, .str 0 0, .bool true], [.row 6 4 sl1 false]⟩,
  ⟨[.str 246 0, J 1], .tup [.tok 0 6 0 1, .str 224 0, .bool true], [.row 6 1 [[I 0, I 0, W 0, W 0, W 0, W 0]] false]⟩,
  ⟨[sv58, J 1], .tup [.tok 0 6 0 1, sv59, .bool true], [.row 6 1 sl15 false]⟩,
  ⟨[sv60, J 1], .tup [.tok 0 6 0 1, sv61, .bool true], [.row 6 1 sl47 false]⟩,
  ⟨[sv62, J 3], .tup [.tok 0 6 0 3, .str 4 0, .bool true], [.row 6 3 sl43 false]⟩,
  ⟨[sv38, J 1], .tup [.tok 0 6 0 1, .str 0 0, .bool true], [.row 6 1 sl37 false]⟩,
  ⟨[sv35, J 8], .tup [.tok 0 6 0 8, .str 0 0, .bool true], [.row 6 8 sl34 false]⟩,
  ⟨[sv31, J 4], .tup [.tok 0 6 0 4, .str 0 0, .bool true], [.row 6 4 sl30 false]⟩,
  ⟨[sv88, J 3], .tup [.tok 0 6 0 3, .str 4 0, .bool true], [.row 6 3 sl73 false]⟩,
  ⟨[sv68, J 1], .tup [.tok 0 6 0 1, .str 0 0, .bool true], [.row 6 1 sl67 false]⟩,
  ⟨[sv65, J 8], .tup [.tok 0 6 0 8, .str 0 0, .bool true], [.row 6 8 sl64 false]⟩,
  ⟨[sv115, J 1], .tup [.tok 0 6 0 1, sv116, .bool true], [.row 6 1 sl77 false]⟩,
  ⟨[sv144, J 1], .tup [.tok 0 6 0 1, sv145, .bool true], [.row 6 1 sl134 false]⟩,
  ⟨[sv146, J 3], .tup [.tok 0 6 0 3, .str 4 0, .bool true], [.row 6 3 sl130 false]⟩,
  ⟨[sv127, J 1], .tup [.tok 0 6 0 1, .str 0 0, .bool true], [.row 6 1 sl126 false]⟩,
  ⟨[sv124, J 8], .tup [.tok 0 6 0 8, .str 0 0, .bool true], [.row 6 8 sl123 false]⟩,
  ⟨[sv120, J 4], .tup [.tok 0 6 0 4, .str 0 0, .bool true], [.row 6 4 sl119 false]⟩]
theorem sc1_13_ok : chkP (E.orc 40) 252 sc1_13 = true := by kernel_rfl
/- palimp/rec.TakeNode, 6690 operations -/
def sc1_14 : List MP := [
  ⟨[.str 93 2], .tup [.agg [J 2, J 0, .str 0 0, .str 0 0, J 0], J 0, .tok 0 6 0 4, .bool true], [.row 6 4 sl1 false]⟩,
  ⟨[sv32], .tup [.agg [J 1, J 0, .str 1 97, .str 0 0, J 0], J 2, .tok 0 6 0 4, .bool true], [.row 6 4 sl30 false]⟩,
  ⟨[.str 94 0x61010001], .tup [.agg [J 1, J 0, .str 1 97, .str 0 0, J 0], J 0, .tok 0 6 0 4, .bool true], [.row 6 4 sl1 false]⟩,
  ⟨[sv121], .tup [.agg [J 1, J 0, .str 1 97, .str 0 0, J 0], J 3, .tok 0 6 0 4, .bool true], [.row 6 4 sl119 false]⟩]
theorem sc1_14_ok : chkP (E.orc 40) 318 sc1_14 = true := by kernel_rfl
/- palimp/smap.Take, 7950 operations -/
def sc1_15 : List MP := [
  ⟨[J 60, .str 32 31], .tup [.tok 0 2 0 1, .str 24 0, .bool true], [.row 2 1 [[I 14, I 19]] false]⟩,
  ⟨[J 60, .str 24 0], .tup [.t (.nilS), .str 16 0, .bool true], []⟩,
  ⟨[J 60, .str 16 0], .tup [.t (.nilS), .str 8 0, .bool true], []⟩,
  ⟨[J 60, .str 8 0], .tup [.t (.nilS), .str 0 0, .bool true], []⟩,
  ⟨[J 60, sv41], .tup [.tok 0 2 0 2, .str 24 30, .bool true], [.row 2 2 [[I 14, I 15], [I 19, I 25]] false]⟩,
  ⟨[J 60, .str 24 30], .tup [.tok 0 2 0 1, .str 16 0, .bool true], [.row 2 1 [[I 15, I 19]] false]⟩,
  ⟨[J 60, sv71], .tup [.tok 0 2 0 2, .str 24 30, .bool true], [.row 2 2 [[I 14, I 15], [I 19, I 24]] false]⟩]
theorem sc1_15_ok : chkP (E.orc 40) 248 sc1_15 = true := by kernel_rfl
noncomputable def sM1 : Memo := ⟨[109, 112, 124, 174, 175, 130, 223, 78, 127, 134, 139, 252, 318, 248, 207], [(109, sc1_0), (112, sc1_1), (130, sc1_2), (223, sc1_3), (78, sc1_4), (127, sc1_5), (127, sc1_6), (134, sc1_7), (139, sc1_8), (207, sc1_9)], [(124, sc1_10), (174, sc1_11), (175, sc1_12), (252, sc1_13), (318, sc1_14), (248, sc1_15)]⟩
noncomputable def sE2 : Env := E.withM 40 sM1
theorem sE2_ok : EnvOk Proofs.Tryz.prog sE2 := withM_ok E_ok ⟨sc1_0_ok, sc1_1_ok, sc1_2_ok, sc1_3_ok, sc1_4_ok, sc1_5_ok, sc1_6_ok, sc1_7_ok, sc1_8_ok, sc1_9_ok, trivial⟩ ⟨sc1_10_ok, sc1_11_ok, sc1_12_ok, sc1_13_ok, sc1_14_ok, sc1_15_ok, trivial⟩
/- palimp/pool.Create, 26579 operations -/
def sc2_0 : List MP := [
  ⟨[J 60, J 7], .tup [.agg [.tok 0 1 0 88, .t (.nilS), J 0, J 0, .bool false, J 18, J 1, U 0xc18b8899, U 0xcfba61f9, U 0x751fce33, U 0xde7fedc4, J 1, J 2, J 7, J 16, J 1, U 0x9770367c, U 0x25659d11, U 0xe1c08a78, U 0x9021ca78, J 17, J 1, U 0x1f200006, U 0xa8e0017f, U 0x1c003080, U 0xb4042860, J 0, J 0, U 0, U 0, U 0, U 0, J 0, .tok 1 2 0 1, .t (.nilS), .t (.nilS), .tok 2 2 0 0, J 1, J 1, .tok 3 5 0 1, .bool false], .bool true], [.row 1 88 sl25 false, .row 2 1 [[I 14, I 19]] false, .row 2 0 [] false, .row 5 1 [[I 1, I 1, I 0, I 0, .seq 5 sl0]] true]⟩]
theorem sc2_0_ok : chkP (sE2.orc 40) 13 sc2_0 = true := by kernel_rfl
/- palimp/play.Do, 64537 operations -/
def sc2_1 : List MP := [
  ⟨[.agg [.t (.seq 1 sl25), .t (.seq 2 []), J 0, J 0, .bool false, J 18, J 1, U 0xc18b8899, U 0xcfba61f9, U 0x751fce33, U 0xde7fedc4, J 1, J 2, J 7, J 16, J 1, U 0x9770367c, U 0x25659d11, U 0xe1c08a78, U 0x9021ca78, J 17, J 1, U 0x1f200006, U 0xa8e0017f, U 0x1c003080, U 0xb4042860, J 0, J 0, U 0, U 0, U 0, U 0, J 0, .t (.seq 2 [[I 14, I 19]]), .t (.seq 2 []), .t (.seq 2 []), .t (.seq 2 []), J 1, J 1, .t (.seq 5 [[I 1, I 1, I 0, I 0, .seq 5 sl27]]), .bool false], .agg [J 15, J 0, J 0, J 0, J 0, .str 0 0, .str 0 0, .str 0 0, .t (.nilS)]], .tup [.agg [.tok 0 1 0 88, .t (.nilS), J 0, J 0, .bool false, J 24, J 2, U 0xa0b4ea1a, U 0xfcd9e230, U 0xc147f66d, U 0xa0816dc0, J 2, J 2, J 7, J 22, J 2, U 0x24fffd77, U 0x9a56d25, U 0xec520d4e, U 0x19c28e07, J 23, J 2, U 0xff20000e, U 0x8ce00370, U 0x76006dc7, U 0x96094640, J 0, J 0, U 0, U 0, U 0, U 0, J 0, .tok 1 2 0 2, .tok 2 2 0 1, .t (.nilS), .tok 3 2 0 0, J 2, J 2, .tok 4 5 0 1, .bool false], .agg [J 0, .str 0 0, J 0, J 0, J 0, J 0, .t (.nilS), J 2]], [.row 1 88 sl57 false, .row 2 2 [[I 14, I 15], [I 19, I 25]] false, .row 2 1 [[I 15, I 19]] true, .row 2 0 [] false, .row 5 1 [[I 1, I 1, I 0, I 0, .seq 5 sl27]] true]⟩]
theorem sc2_1_ok : chkP (sE2.orc 40) 14 sc2_1 = true := by kernel_rfl
/- palimp/play.Do, 47885 operations -/
def sc2_2 : List MP := [
  ⟨[.agg [.t (.seq 1 sl57), .t (.nilS), J 0, J 0, .bool false, J 0, J 0, U 0, U 0, U 0, U 0, J 0, J 0, J 0, J 0, J 0, U 0, U 0, U 0, U 0, J 0, J 0, U 0, U 0, U 0, U 0, J 0, J 0, U 0, U 0, U 0, U 0, J 0, .t (.nilS), .t (.nilS), .t (.nilS), .t (.nilS), J 0, J 0, .t (.nilS), .bool false], .agg [J 18, J 0, J 0, J 0, J 0, .str 0 0, .str 0 0, .str 0 0, .t (.nilS)]], .tup [.agg [.tok 0 1 0 88, .tok 1 2 0 0, J 0, J 0, .bool false, J 24, J 2, U 0xa0b4ea1a, U 0xfcd9e230, U 0xc147f66d, U 0xa0816dc0, J 2, J 2, J 7, J 22, J 2, U 0x24fffd77, U 0x9a56d25, U 0xec520d4e, U 0x19c28e07, J 23, J 2, U 0xff20000e, U 0x8ce00370, U 0x76006dc7, U 0x96094640, J 0, J 0, U 0, U 0, U 0, U 0, J 0, .t (.seq 2 [[I 14, I 15], [I 19, I 25]]), .t (.seq 2 [[I 15, I 19]]), .t (.nilS), .t (.nilS), J 2, J 2, .t (.seq 5 [[I 1, I 1, I 0, I 0, .seq 5 sl27]]), .bool false], .agg [J 0, .str 0 0, J 0, J 0, J 0, J 0, .t (.nilS), J 2]], [.row 1 88 sl57 false, .row 2 0 [] false]⟩]
theorem sc2_2_ok : chkP (sE2.orc 40) 14 sc2_2 = true := by kernel_rfl
/- palimp/play.Do, 64058 operations -/
def sc2_3 : List MP := [
  ⟨[.agg [.t (.seq 1 sl25), .t (.seq 2 []), J 0, J 0, .bool false, J 18, J 1, U 0xc18b8899, U 0xcfba61f9, U 0x751fce33, U 0xde7fedc4, J 1, J 2, J 7, J 16, J 1, U 0x9770367c, U 0x25659d11, U 0xe1c08a78, U 0x9021ca78, J 17, J 1, U 0x1f200006, U 0xa8e0017f, U 0x1c003080, U 0xb4042860, J 0, J 0, U 0, U 0, U 0, U 0, J 0, .t (.seq 2 [[I 14, I 19]]), .t (.seq 2 []), .t (.seq 2 []), .t (.seq 2 []), J 1, J 1, .t (.seq 5 [[I 1, I 1, I 0, I 0, .seq 5 sl26]]), .bool false], .agg [J 15, J 0, J 0, J 0, J 0, .str 0 0, .str 0 0, .str 0 0, .t (.nilS)]], .tup [.agg [.tok 0 1 0 88, .t (.nilS), J 0, J 0, .bool false, J 23, J 2, U 0x3db26be0, U 0xe2814046, U 0x7ee19c2d, U 0xd66f4502, J 2, J 2, J 7, J 21, J 2, U 0x5c992b02, U 0x5051d24f, U 0x58dde3a1, U 0x596fc3c9, J 22, J 2, U 0xff20000a, U 0x8ce00278, U 0x76004f43, U 0x9606bb40, J 0, J 0, U 0, U 0, U 0, U 0, J 0, .tok 1 2 0 2, .tok 2 2 0 1, .t (.nilS), .tok 3 2 0 0, J 2, J 2, .tok 4 5 0 1, .bool false], .agg [J 0, .str 0 0, J 0, J 0, J 0, J 0, .t (.nilS), J 2]], [.row 1 88 sl86 false, .row 2 2 [[I 14, I 15], [I 19, I 24]] false, .row 2 1 [[I 15, I 19]] true, .row 2 0 [] false, .row 5 1 [[I 1, I 1, I 0, I 0, .seq 5 sl26]] true]⟩]
theorem sc2_3_ok : chkP (sE2.orc 40) 14 sc2_3 = true := by kernel_rfl
/- palimp/play.Do, 79813 operations -/
def sc2_4 : List MP := [
  ⟨[.agg [.t (.seq 1 sl86), .t (.seq 2 []), J 0, J 6, .bool false, J 23, J 2, U 0x3db26be0, U 0xe2814046, U 0x7ee19c2d, U 0xd66f4502, J 2, J 2, J 7, J 21, J 2, U 0x5c992b02, U 0x5051d24f, U 0x58dde3a1, U 0x596fc3c9, J 22, J 2, U 0xff20000a, U 0x8ce00278, U 0x76004f43, U 0x9606bb40, J 0, J 0, U 0, U 0, U 0, U 0, J 0, .t (.seq 2 [[I 14, I 15], [I 19, I 24]]), .t (.seq 2 [[I 15, I 19]]), .t (.seq 2 []), .t (.seq 2 []), J 2, J 2, .t (.seq 5 [[I 1, I 1, I 0, I 0, .seq 5 sl87]]), .bool false], .agg [J 15, J 0, J 0, J 0, J 0, .str 0 0, .str 0 0, .str 0 0, .t (.nilS)]], .tup [.agg [.tok 0 1 0 88, .tok 1 2 0 6, J 0, J 0, .bool true, J 23, J 2, U 0x3db26be0, U 0xe2814046, U 0x7ee19c2d, U 0xd66f4502, J 2, J 2, J 7, J 21, J 2, U 0x5c992b02, U 0x5051d24f, U 0x58dde3a1, U 0x596fc3c9, J 22, J 2, U 0xff20000a, U 0x8ce00278, U 0x76004f43, U 0x9606bb40, J 0, J 0, U 0, U 0, U 0, U 0, J 0, .tok 2 2 0 2, .tok 3 2 0 1, .tok 4 2 0 0, .tok 5 2 0 0, J 2, J 2, .tok 6 5 0 1, .bool false], .agg [J 13, .str 0 0, J 0, J 0, J 0, J 0, .t (.nilS), J 0]], [.row 1 88 sl86 false, .row 2 6 sl113 false, .row 2 2 [[I 14, I 15], [I 19, I 24]] false, .row 2 1 [[I 15, I 19]] false, .row 2 0 [] false, .row 2 0 [] false, .row 5 1 [[I 1, I 1, I 0, I 0, .seq 5 sl87]] false]⟩]
theorem sc2_4_ok : chkP (sE2.orc 40) 14 sc2_4 = true := by kernel_rfl
/- palimp/play.Do, 47487 operations -/
def sc2_5 : List MP := [
  ⟨[.agg [.t (.seq 1 sl114), .t (.seq 2 []), J 0, J 0, .bool false, J 0, J 0, U 0, U 0, U 0, U 0, J 0, J 0, J 0, J 0, J 0, U 0, U 0, U 0, U 0, J 0, J 0, U 0, U 0, U 0, U 0, J 0, J 0, U 0, U 0, U 0, U 0, J 0, .t (.seq 2 []), .t (.seq 2 []), .t (.seq 2 []), .t (.seq 2 []), J 0, J 0, .t (.seq 5 []), .bool false], .agg [J 18, J 0, J 1, J 0, J 0, .str 0 0, .str 0 0, .str 0 0, .t (.nilS)]], .tup [.agg [.tok 0 1 0 88, .tok 1 2 0 0, J 0, J 0, .bool false, J 23, J 2, U 0x3db26be0, U 0xe2814046, U 0x7ee19c2d, U 0xd66f4502, J 2, J 2, J 7, J 21, J 2, U 0x5c992b02, U 0x5051d24f, U 0x58dde3a1, U 0x596fc3c9, J 22, J 2, U 0xff20000a, U 0x8ce00278, U 0x76004f43, U 0x9606bb40, J 0, J 0, U 0, U 0, U 0, U 0, J 0, .t (.seq 2 [[I 14, I 15], [I 19, I 24]]), .t (.seq 2 [[I 15, I 19]]), .t (.nilS), .t (.nilS), J 2, J 2, .t (.seq 5 [[I 1, I 1, I 0, I 0, .seq 5 sl26]]), .bool false], .agg [J 0, .str 0 0, J 0, J 0, J 0, J 0, .t (.nilS), J 2]], [.row 1 88 sl114 false, .row 2 0 [] false]⟩]
theorem sc2_5_ok : chkP (sE2.orc 40) 14 sc2_5 = true := by kernel_rfl
/- palimp/play.Do, 75406 operations -/
def sc2_6 : List MP := [
  ⟨[.agg [.t (.seq 1 sl114), .t (.seq 2 []), J 0, J 0, .bool false, J 23, J 2, U 0x3db26be0, U 0xe2814046, U 0x7ee19c2d, U 0xd66f4502, J 2, J 2, J 7, J 21, J 2, U 0x5c992b02, U 0x5051d24f, U 0x58dde3a1, U 0x596fc3c9, J 22, J 2, U 0xff20000a, U 0x8ce00278, U 0x76004f43, U 0x9606bb40, J 0, J 0, U 0, U 0, U 0, U 0, J 0, .t (.seq 2 [[I 14, I 15], [I 19, I 24]]), .t (.seq 2 [[I 15, I 19]]), .t (.seq 2 []), .t (.seq 2 []), J 2, J 2, .t (.seq 5 [[I 1, I 1, I 0, I 0, .seq 5 sl117]]), .bool false], .agg [J 15, J 0, J 1, J 0, J 0, .str 0 0, .str 0 0, .str 0 0, .t (.nilS)]], .tup [.agg [.tok 0 1 0 88, .t (.nilS), J 0, J 0, .bool false, J 29, J 3, U 0x3ac30eb7, U 0xccb97d9e, U 0xfade72b0, U 0xe06fc056, J 3, J 2, J 7, J 27, J 3, U 0xcddef91, U 0x29c6754d, U 0xaada0d0c, U 0xa704a6f8, J 28, J 3, U 0xff200107, U 0x90e03fb9, U 0xe807d82e, U 0xa8a76dd4, J 0, J 0, U 0, U 0, U 0, U 0, J 0, .tok 1 2 0 2, .tok 2 2 0 1, .tok 3 2 0 1, .tok 4 2 0 0, J 3, J 3, .tok 5 5 0 1, .bool false], .agg [J 0, .str 0 0, J 0, J 0, J 0, J 0, .t (.nilS), J 3]], [.row 1 88 sl143 false, .row 2 2 [[I 14, I 15], [I 24, I 30]] false, .row 2 1 [[I 19, I 24]] true, .row 2 1 [[I 15, I 19]] false, .row 2 0 [] false, .row 5 1 [[I 1, I 1, I 0, I 0, .seq 5 sl117]] true]⟩]
theorem sc2_6_ok : chkP (sE2.orc 40) 14 sc2_6 = true := by kernel_rfl
/- palimp/play.Do, 25680 operations -/
def sc2_7 : List MP := [
  ⟨[.agg [.t (.seq 1 sl143), .t (.nilS), J 0, J 0, .bool false, J 0, J 0, U 0, U 0, U 0, U 0, J 0, J 0, J 0, J 0, J 0, U 0, U 0, U 0, U 0, J 0, J 0, U 0, U 0, U 0, U 0, J 0, J 0, U 0, U 0, U 0, U 0, J 0, .t (.nilS), .t (.nilS), .t (.nilS), .t (.nilS), J 0, J 0, .t (.nilS), .bool false], .agg [J 18, J 0, J 3, J 0, J 0, .str 0 0, .str 0 0, .str 0 0, .t (.nilS)]], .tup [.agg [.tok 0 1 0 88, .tok 1 2 0 0, J 0, J 0, .bool false, J 29, J 3, U 0x3ac30eb7, U 0xccb97d9e, U 0xfade72b0, U 0xe06fc056, J 3, J 2, J 7, J 27, J 3, U 0xcddef91, U 0x29c6754d, U 0xaada0d0c, U 0xa704a6f8, J 28, J 3, U 0xff200107, U 0x90e03fb9, U 0xe807d82e, U 0xa8a76dd4, J 0, J 0, U 0, U 0, U 0, U 0, J 0, .t (.nilS), .t (.nilS), .t (.nilS), .t (.nilS), J 3, J 3, .t (.seq 5 [[I 1, I 1, I 0, I 0, .seq 5 sl117]]), .bool true], .agg [J 0, .str 0 0, J 0, J 0, J 0, J 0, .t (.nilS), J 3]], [.row 1 88 sl143 false, .row 2 0 [] false]⟩]
theorem sc2_7_ok : chkP (sE2.orc 40) 14 sc2_7 = true := by kernel_rfl
noncomputable def sM2 : Memo := ⟨[13, 14], [], [(13, sc2_0), (14, sc2_1), (14, sc2_2), (14, sc2_3), (14, sc2_4), (14, sc2_5), (14, sc2_6), (14, sc2_7)]⟩
noncomputable def sE3 : Env := sE2.withM 40 sM2
theorem sE3_ok : EnvOk Proofs.Tryz.prog sE3 := withM_ok sE2_ok trivial ⟨sc2_0_ok, sc2_1_ok, sc2_2_ok, sc2_3_ok, sc2_4_ok, sc2_5_ok, sc2_6_ok, sc2_7_ok, trivial⟩
theorem run_TopStory0 : isS (sE3.scalN (sE3.orc 39) 4 []) (.bool true) = true := by kernel_rfl
theorem run_TopStory : sE3.scalN (sE3.orc 39) 4 [] = some (.bool true) := isS_eq run_TopStory0
end Go.Top
